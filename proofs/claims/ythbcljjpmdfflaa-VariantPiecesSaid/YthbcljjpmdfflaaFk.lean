/-
  Layer 5's reference on the abstract machine: Valid.
-/
import Derived.Test.YthbcljjpmdfflaaFj
namespace Go.Proofs.Ythbcljjpmdfflaa
open Go.RowKit
set_option linter.unusedSimpArgs false
set_option linter.unusedVariables false
set_option maxRecDepth 100000

/-- what a machine grants of every font -/
structure Font.Fit (f : Font) : Prop where
  gl : f.glyphs.length ≤ maxLen
  sl : f.stretches.length ≤ maxLen
  gn : ∀ g ∈ f.glyphs, g.name.size ≤ maxLen
  sn : ∀ s ∈ f.stretches, s.name.size ≤ maxLen

theorem glyphsOk_mem : ∀ (l seen : List Glyph), glyphsOk seen l = true → ∀ g ∈ l, glyphOk g = true
  | [], _, _, g, hg => by cases hg
  | x :: r, seen, h, g, hg => by
    simp only [glyphsOk, Bool.and_eq_true] at h
    rcases List.mem_cons.1 hg with rfl | hg
    · exact h.1.1
    · exact glyphsOk_mem r _ h.2 g hg

set_option maxHeartbeats 3200000 in
theorem rvalid_a (f : Font) (hf : f.Fit) : AC Try.prog 52 [.agg f.vs] (.c (.bool f.valid)) := by
  have hV : f.valid = ((decide (f.glyphs.length ≤ 400) && (decide (f.stretches.length ≤ 40) && paramsOk f.params)) && (glyphsOk [] f.glyphs && stretchesOk f.ht [] f.stretches)) := rfl
  by_cases c1 : (400 : Int) < (f.glyphs.length : Int)
  · have e : f.valid = false := by rw [hV, decide_eq_false (show ¬ f.glyphs.length ≤ 400 by omega)]; rfl
    refine AC.intro Try.func52 rfl ?_
    simp only [Try.ntmps52, List.map_cons, List.map_nil, List.length_cons, List.length_nil, Nat.reduceAdd, Nat.reduceSub, List.replicate_succ, List.replicate_zero, List.cons_append, List.nil_append]
    repeat (first
     | (with_reducible first | refine AW.seq ?_ | refine AW.block ?_ | refine aThen_n ?_ | refine aBlk_n ?_ | refine AW.ret ?_ | refine aThen_r ?_ | refine aBlk_r ?_ | refine aops_done ?_ | refine AW.skip ?_ | refine AW.exit ?_ | refine aThen_e ?_ | refine aBlk_hit ?_ | refine AW.label ?_ | refine AW.scope ?_ | refine aNg_n ?_ | refine aNg_r ?_ | refine aNg_e ?_)
     | ((with_reducible refine AW.region ?_); with_reducible refine aops_run (by simp [List.replicate_succ, c1, glyphsC]; first | exact rfl | exact ⟨rfl, rfl⟩) ?_)
     | ((with_reducible refine AW.draw mixedP ?_ ?_); (focus first | exact .inl rfl | exact .inr (by decide)); with_reducible refine adraw_go (by simp [List.replicate_succ, c1, glyphsC]; first | exact rfl | exact ⟨rfl, rfl, rfl⟩) ?_)
     | (with_reducible refine adraw_done (by kernel_rfl) ?_)
     | ((with_reducible refine aBlk_miss ?_ ?_); focus decide)
     | ((with_reducible refine cond_t ?_ ?_); focus (simp [ev, c1, glyphsC]; done))
     | ((with_reducible refine cond_f ?_ ?_); focus (simp [ev, c1, glyphsC]; done)))
    simp [aRet, ares, aresL, ares1, V.pub, V.pubs, ldV, Try.results52, e]
  · by_cases c2 : (40 : Int) < (f.stretches.length : Int)
    · have e : f.valid = false := by rw [hV, decide_eq_false (show ¬ f.stretches.length ≤ 40 by omega)]; simp
      refine AC.intro Try.func52 rfl ?_
      simp only [Try.ntmps52, List.map_cons, List.map_nil, List.length_cons, List.length_nil, Nat.reduceAdd, Nat.reduceSub, List.replicate_succ, List.replicate_zero, List.cons_append, List.nil_append]
      repeat (first
       | (with_reducible first | refine AW.seq ?_ | refine AW.block ?_ | refine aThen_n ?_ | refine aBlk_n ?_ | refine AW.ret ?_ | refine aThen_r ?_ | refine aBlk_r ?_ | refine aops_done ?_ | refine AW.skip ?_ | refine AW.exit ?_ | refine aThen_e ?_ | refine aBlk_hit ?_ | refine AW.label ?_ | refine AW.scope ?_ | refine aNg_n ?_ | refine aNg_r ?_ | refine aNg_e ?_)
       | ((with_reducible refine AW.region ?_); with_reducible refine aops_run (by simp [List.replicate_succ, c1, c2, glyphsC, stretchesC]; first | exact rfl | exact ⟨rfl, rfl⟩) ?_)
       | ((with_reducible refine AW.draw mixedP ?_ ?_); (focus first | exact .inl rfl | exact .inr (by decide)); with_reducible refine adraw_go (by simp [List.replicate_succ, c1, c2, glyphsC, stretchesC]; first | exact rfl | exact ⟨rfl, rfl, rfl⟩) ?_)
       | (with_reducible refine adraw_done (by kernel_rfl) ?_)
       | ((with_reducible refine aBlk_miss ?_ ?_); focus decide)
       | ((with_reducible refine cond_t ?_ ?_); focus (simp [ev, c1, c2, glyphsC, stretchesC]; done))
       | ((with_reducible refine cond_f ?_ ?_); focus (simp [ev, c1, c2, glyphsC, stretchesC]; done)))
      simp [aRet, ares, aresL, ares1, V.pub, V.pubs, ldV, Try.results52, e]
    · cases c3 : paramsOk f.params with
      | false =>
        have e : f.valid = false := by rw [hV, c3]; simp
        refine AC.intro Try.func52 rfl ?_
        simp only [Try.ntmps52, List.map_cons, List.map_nil, List.length_cons, List.length_nil, Nat.reduceAdd, Nat.reduceSub, List.replicate_succ, List.replicate_zero, List.cons_append, List.nil_append]
        repeat (first
         | (with_reducible first | refine AW.seq ?_ | refine AW.block ?_ | refine aThen_n ?_ | refine aBlk_n ?_ | refine AW.ret ?_ | refine aThen_r ?_ | refine aBlk_r ?_ | refine aops_done ?_ | refine AW.skip ?_ | refine AW.exit ?_ | refine aThen_e ?_ | refine aBlk_hit ?_ | refine AW.label ?_ | refine AW.scope ?_ | refine aNg_n ?_ | refine aNg_r ?_ | refine aNg_e ?_)
         | ((with_reducible refine AW.region ?_); with_reducible refine aops_run (by simp [List.replicate_succ, c1, c2, glyphsC, stretchesC]; first | exact rfl | exact ⟨rfl, rfl⟩) ?_)
         | ((with_reducible refine AW.draw mixedP ?_ ?_); (focus first | exact .inl rfl | exact .inr (by decide)); with_reducible refine adraw_go (by simp [List.replicate_succ, c1, c2, glyphsC, stretchesC]; first | exact rfl | exact ⟨rfl, rfl, rfl⟩) ?_)
         | (with_reducible refine adraw_done (by kernel_rfl) ?_)
         | ((with_reducible refine aBlk_miss ?_ ?_); focus decide)
         | ((with_reducible refine cond_t ?_ ?_); focus (simp [ev, c1, c2, glyphsC, stretchesC]; done))
         | ((with_reducible refine cond_f ?_ ?_); focus (simp [ev, c1, c2, glyphsC, stretchesC]; done)))
        (with_reducible first | refine aops_c (params_a f.params) Try.func92 (by kernel_rfl) (by kernel_rfl) ?_ ?_ ?_ | refine adraw_c (params_a f.params) Try.func92 (by kernel_rfl) (by kernel_rfl) ?_ ?_ ?_)
        focus (simp [gate, c3, Params.vs, Params.list]; done)
        focus (simp [pubCall, c3, Params.vs, Params.list]; done)
        first | (with_reducible refine aops_run (by simp [List.replicate_succ, c3, Params.vs, Params.list]; first | exact rfl | exact ⟨rfl, rfl⟩) ?_) | (with_reducible refine adraw_go (by simp [List.replicate_succ, c3, Params.vs, Params.list]; first | exact rfl | exact ⟨rfl, rfl, rfl⟩) ?_)
        repeat (first
         | (with_reducible first | refine AW.seq ?_ | refine AW.block ?_ | refine aThen_n ?_ | refine aBlk_n ?_ | refine AW.ret ?_ | refine aThen_r ?_ | refine aBlk_r ?_ | refine aops_done ?_ | refine AW.skip ?_ | refine AW.exit ?_ | refine aThen_e ?_ | refine aBlk_hit ?_ | refine AW.label ?_ | refine AW.scope ?_ | refine aNg_n ?_ | refine aNg_r ?_ | refine aNg_e ?_)
         | ((with_reducible refine AW.region ?_); with_reducible refine aops_run (by simp [List.replicate_succ]; first | exact rfl | exact ⟨rfl, rfl⟩) ?_)
         | ((with_reducible refine AW.draw mixedP ?_ ?_); (focus first | exact .inl rfl | exact .inr (by decide)); with_reducible refine adraw_go (by simp [List.replicate_succ]; first | exact rfl | exact ⟨rfl, rfl, rfl⟩) ?_)
         | (with_reducible refine adraw_done (by kernel_rfl) ?_)
         | ((with_reducible refine aBlk_miss ?_ ?_); focus decide)
         | ((with_reducible refine cond_t ?_ ?_); focus (simp [ev]; done))
         | ((with_reducible refine cond_f ?_ ?_); focus (simp [ev]; done)))
        simp [aRet, ares, aresL, ares1, V.pub, V.pubs, ldV, Try.results52, e]
      | true =>
        cases c4 : glyphsOk [] f.glyphs with
        | false =>
          have e : f.valid = false := by rw [hV, c4]; simp
          refine AC.intro Try.func52 rfl ?_
          simp only [Try.ntmps52, List.map_cons, List.map_nil, List.length_cons, List.length_nil, Nat.reduceAdd, Nat.reduceSub, List.replicate_succ, List.replicate_zero, List.cons_append, List.nil_append]
          repeat (first
           | (with_reducible first | refine AW.seq ?_ | refine AW.block ?_ | refine aThen_n ?_ | refine aBlk_n ?_ | refine AW.ret ?_ | refine aThen_r ?_ | refine aBlk_r ?_ | refine aops_done ?_ | refine AW.skip ?_ | refine AW.exit ?_ | refine aThen_e ?_ | refine aBlk_hit ?_ | refine AW.label ?_ | refine AW.scope ?_ | refine aNg_n ?_ | refine aNg_r ?_ | refine aNg_e ?_)
           | ((with_reducible refine AW.region ?_); with_reducible refine aops_run (by simp [List.replicate_succ, c1, c2, glyphsC, stretchesC]; first | exact rfl | exact ⟨rfl, rfl⟩) ?_)
           | ((with_reducible refine AW.draw mixedP ?_ ?_); (focus first | exact .inl rfl | exact .inr (by decide)); with_reducible refine adraw_go (by simp [List.replicate_succ, c1, c2, glyphsC, stretchesC]; first | exact rfl | exact ⟨rfl, rfl, rfl⟩) ?_)
           | (with_reducible refine adraw_done (by kernel_rfl) ?_)
           | ((with_reducible refine aBlk_miss ?_ ?_); focus decide)
           | ((with_reducible refine cond_t ?_ ?_); focus (simp [ev, c1, c2, glyphsC, stretchesC]; done))
           | ((with_reducible refine cond_f ?_ ?_); focus (simp [ev, c1, c2, glyphsC, stretchesC]; done)))
          (with_reducible first | refine aops_c (params_a f.params) Try.func92 (by kernel_rfl) (by kernel_rfl) ?_ ?_ ?_ | refine adraw_c (params_a f.params) Try.func92 (by kernel_rfl) (by kernel_rfl) ?_ ?_ ?_)
          focus (simp [gate, c3, Params.vs, Params.list]; done)
          focus (simp [pubCall, c3, Params.vs, Params.list]; done)
          first | (with_reducible refine aops_run (by simp [List.replicate_succ, c3, Params.vs, Params.list]; first | exact rfl | exact ⟨rfl, rfl⟩) ?_) | (with_reducible refine adraw_go (by simp [List.replicate_succ, c3, Params.vs, Params.list]; first | exact rfl | exact ⟨rfl, rfl, rfl⟩) ?_)
          (with_reducible first | refine aops_c (glyphs_a f.glyphs (by omega) hf.gn) Try.func93 (by kernel_rfl) (by kernel_rfl) ?_ ?_ ?_ | refine adraw_c (glyphs_a f.glyphs (by omega) hf.gn) Try.func93 (by kernel_rfl) (by kernel_rfl) ?_ ?_ ?_)
          focus (simp [gate, c4]; done)
          focus (simp [pubCall, c4]; done)
          first | (with_reducible refine aops_run (by simp [List.replicate_succ, c4]; first | exact rfl | exact ⟨rfl, rfl⟩) ?_) | (with_reducible refine adraw_go (by simp [List.replicate_succ, c4]; first | exact rfl | exact ⟨rfl, rfl, rfl⟩) ?_)
          repeat (first
           | (with_reducible first | refine AW.seq ?_ | refine AW.block ?_ | refine aThen_n ?_ | refine aBlk_n ?_ | refine AW.ret ?_ | refine aThen_r ?_ | refine aBlk_r ?_ | refine aops_done ?_ | refine AW.skip ?_ | refine AW.exit ?_ | refine aThen_e ?_ | refine aBlk_hit ?_ | refine AW.label ?_ | refine AW.scope ?_ | refine aNg_n ?_ | refine aNg_r ?_ | refine aNg_e ?_)
           | ((with_reducible refine AW.region ?_); with_reducible refine aops_run (by simp [List.replicate_succ]; first | exact rfl | exact ⟨rfl, rfl⟩) ?_)
           | ((with_reducible refine AW.draw mixedP ?_ ?_); (focus first | exact .inl rfl | exact .inr (by decide)); with_reducible refine adraw_go (by simp [List.replicate_succ]; first | exact rfl | exact ⟨rfl, rfl, rfl⟩) ?_)
           | (with_reducible refine adraw_done (by kernel_rfl) ?_)
           | ((with_reducible refine aBlk_miss ?_ ?_); focus decide)
           | ((with_reducible refine cond_t ?_ ?_); focus (simp [ev]; done))
           | ((with_reducible refine cond_f ?_ ?_); focus (simp [ev]; done)))
          simp [aRet, ares, aresL, ares1, V.pub, V.pubs, ldV, Try.results52, e]
        | true =>
          have hok := glyphsOk_mem _ _ c4
          have hV2 : f.valid = stretchesOk f.ht [] f.stretches := by
            rw [hV, decide_eq_true (show f.glyphs.length ≤ 400 by omega), decide_eq_true (show f.stretches.length ≤ 40 by omega), c3, c4]
            rfl
          refine AC.intro Try.func52 rfl ?_
          simp only [Try.ntmps52, List.map_cons, List.map_nil, List.length_cons, List.length_nil, Nat.reduceAdd, Nat.reduceSub, List.replicate_succ, List.replicate_zero, List.cons_append, List.nil_append]
          repeat (first
           | (with_reducible first | refine AW.seq ?_ | refine AW.block ?_ | refine aThen_n ?_ | refine aBlk_n ?_ | refine AW.ret ?_ | refine aThen_r ?_ | refine aBlk_r ?_ | refine aops_done ?_ | refine AW.skip ?_ | refine AW.exit ?_ | refine aThen_e ?_ | refine aBlk_hit ?_ | refine AW.label ?_ | refine AW.scope ?_ | refine aNg_n ?_ | refine aNg_r ?_ | refine aNg_e ?_)
           | ((with_reducible refine AW.region ?_); with_reducible refine aops_run (by simp [List.replicate_succ, c1, c2, glyphsC, stretchesC]; first | exact rfl | exact ⟨rfl, rfl⟩) ?_)
           | ((with_reducible refine AW.draw mixedP ?_ ?_); (focus first | exact .inl rfl | exact .inr (by decide)); with_reducible refine adraw_go (by simp [List.replicate_succ, c1, c2, glyphsC, stretchesC]; first | exact rfl | exact ⟨rfl, rfl, rfl⟩) ?_)
           | (with_reducible refine adraw_done (by kernel_rfl) ?_)
           | ((with_reducible refine aBlk_miss ?_ ?_); focus decide)
           | ((with_reducible refine cond_t ?_ ?_); focus (simp [ev, c1, c2, glyphsC, stretchesC]; done))
           | ((with_reducible refine cond_f ?_ ?_); focus (simp [ev, c1, c2, glyphsC, stretchesC]; done)))
          (with_reducible first | refine aops_c (params_a f.params) Try.func92 (by kernel_rfl) (by kernel_rfl) ?_ ?_ ?_ | refine adraw_c (params_a f.params) Try.func92 (by kernel_rfl) (by kernel_rfl) ?_ ?_ ?_)
          focus (simp [gate, c3, Params.vs, Params.list]; done)
          focus (simp [pubCall, c3, Params.vs, Params.list]; done)
          first | (with_reducible refine aops_run (by simp [List.replicate_succ, c3, Params.vs, Params.list]; first | exact rfl | exact ⟨rfl, rfl⟩) ?_) | (with_reducible refine adraw_go (by simp [List.replicate_succ, c3, Params.vs, Params.list]; first | exact rfl | exact ⟨rfl, rfl, rfl⟩) ?_)
          (with_reducible first | refine aops_c (glyphs_a f.glyphs (by omega) hf.gn) Try.func93 (by kernel_rfl) (by kernel_rfl) ?_ ?_ ?_ | refine adraw_c (glyphs_a f.glyphs (by omega) hf.gn) Try.func93 (by kernel_rfl) (by kernel_rfl) ?_ ?_ ?_)
          focus (simp [gate, c4]; done)
          focus (simp [pubCall, c4]; done)
          first | (with_reducible refine aops_run (by simp [List.replicate_succ, c4]; first | exact rfl | exact ⟨rfl, rfl⟩) ?_) | (with_reducible refine adraw_go (by simp [List.replicate_succ, c4]; first | exact rfl | exact ⟨rfl, rfl, rfl⟩) ?_)
          repeat (first
           | (with_reducible first | refine AW.seq ?_ | refine AW.block ?_ | refine aThen_n ?_ | refine aBlk_n ?_ | refine AW.ret ?_ | refine aThen_r ?_ | refine aBlk_r ?_ | refine aops_done ?_ | refine AW.skip ?_ | refine AW.exit ?_ | refine aThen_e ?_ | refine aBlk_hit ?_ | refine AW.label ?_ | refine AW.scope ?_ | refine aNg_n ?_ | refine aNg_r ?_ | refine aNg_e ?_)
           | ((with_reducible refine AW.region ?_); with_reducible refine aops_run (by simp [List.replicate_succ]; first | exact rfl | exact ⟨rfl, rfl⟩) ?_)
           | ((with_reducible refine AW.draw mixedP ?_ ?_); (focus first | exact .inl rfl | exact .inr (by decide)); with_reducible refine adraw_go (by simp [List.replicate_succ]; first | exact rfl | exact ⟨rfl, rfl, rfl⟩) ?_)
           | (with_reducible refine adraw_done (by kernel_rfl) ?_)
           | ((with_reducible refine aBlk_miss ?_ ?_); focus decide)
           | ((with_reducible refine cond_t ?_ ?_); focus (simp [ev]; done))
           | ((with_reducible refine cond_f ?_ ?_); focus (simp [ev]; done)))
          refine AW.loopH (ι := { k : Nat // k ≤ f.stretches.length ∧ f.valid = stretchesOk f.ht (f.stretches.take k) (f.stretches.drop k) }) (fun k => [(3, .c (.int .i64 (k.1 : Int))), (2, .c (.bool false))]) (fun _ => [.box 27 f.vs false]) (fun k => f.stretches.length - k.1) ⟨0, by simpa using hV2⟩ _ (by simp only [wr, wrOps, List.cons_append, List.nil_append, List.append_nil, List.append_assoc]; exact rfl) _ (by simp only [havoc, List.foldl_cons, List.foldl_nil, List.set_cons_zero, List.set_cons_succ]; exact rfl) ?_ ?_
          all_goals simp only [puts, List.foldl_cons, List.foldl_nil, List.set_cons_zero, List.set_cons_succ]
          · refine Le.weak (by simp [subT])
          · rintro ⟨k, hk, hI⟩
            by_cases hlt : k < f.stretches.length
            · obtain ⟨s, hs⟩ : ∃ s, f.stretches[k] = s := ⟨_, rfl⟩
              have hns := hf.sn f.stretches[k] (List.getElem_mem hlt)
              rw [hs] at hns
              have htk : f.stretches.take k ++ [s] = f.stretches.take (k + 1) := by rw [List.take_succ_eq_append_getElem hlt, hs]
              rw [List.drop_eq_getElem_cons hlt, hs] at hI
              simp only [stretchesOk] at hI
              rw [htk, ← rstretchOk_eq hok] at hI
              have hw : IntKind.i64.wrap ((k : Int) + 1) = ((k + 1 : Nat) : Int) := by rw [wrap_i64 (by omega) (by omega)]; simp
              cases c5 : rstretchOk f s with
              | false =>
                rw [c5] at hI
                simp only [Bool.false_and] at hI
                repeat (first
                 | (with_reducible first | refine AW.seq ?_ | refine AW.block ?_ | refine aThen_n ?_ | refine aBlk_n ?_ | refine AW.ret ?_ | refine aThen_r ?_ | refine aBlk_r ?_ | refine aops_done ?_ | refine AW.skip ?_ | refine AW.exit ?_ | refine aThen_e ?_ | refine aBlk_hit ?_ | refine AW.label ?_ | refine AW.scope ?_ | refine aNg_n ?_ | refine aNg_r ?_ | refine aNg_e ?_)
                 | ((with_reducible refine AW.region ?_); with_reducible refine aops_run (by simp [List.replicate_succ, hlt, hs, stretchesC, Stretch.row]; first | exact rfl | exact ⟨rfl, rfl⟩) ?_)
                 | ((with_reducible refine AW.draw mixedP ?_ ?_); (focus first | exact .inl rfl | exact .inr (by decide)); with_reducible refine adraw_go (by simp [List.replicate_succ, hlt, hs, stretchesC, Stretch.row]; first | exact rfl | exact ⟨rfl, rfl, rfl⟩) ?_)
                 | (with_reducible refine adraw_done (by kernel_rfl) ?_)
                 | ((with_reducible refine aBlk_miss ?_ ?_); focus decide)
                 | ((with_reducible refine cond_t ?_ ?_); focus (simp [ev, hlt, hs, stretchesC, Stretch.row]; done))
                 | ((with_reducible refine cond_f ?_ ?_); focus (simp [ev, hlt, hs, stretchesC, Stretch.row]; done)))
                (with_reducible first | refine aops_c (rstretch1_a f s hok hf.gl hns) Try.func94 (by kernel_rfl) (by kernel_rfl) ?_ ?_ ?_ | refine adraw_c (rstretch1_a f s hok hf.gl hns) Try.func94 (by kernel_rfl) (by kernel_rfl) ?_ ?_ ?_)
                focus (simp [gate, c5, stretchV, Stretch.row]; done)
                focus (simp [pubCall, c5, stretchV, Stretch.row]; done)
                first | (with_reducible refine aops_run (by simp [List.replicate_succ, c5, stretchV, Stretch.row]; first | exact rfl | exact ⟨rfl, rfl⟩) ?_) | (with_reducible refine adraw_go (by simp [List.replicate_succ, c5, stretchV, Stretch.row]; first | exact rfl | exact ⟨rfl, rfl, rfl⟩) ?_)
                repeat (first
                 | (with_reducible first | refine AW.seq ?_ | refine AW.block ?_ | refine aThen_n ?_ | refine aBlk_n ?_ | refine AW.ret ?_ | refine aThen_r ?_ | refine aBlk_r ?_ | refine aops_done ?_ | refine AW.skip ?_ | refine AW.exit ?_ | refine aThen_e ?_ | refine aBlk_hit ?_ | refine AW.label ?_ | refine AW.scope ?_ | refine aNg_n ?_ | refine aNg_r ?_ | refine aNg_e ?_)
                 | ((with_reducible refine AW.region ?_); with_reducible refine aops_run (by simp [List.replicate_succ]; first | exact rfl | exact ⟨rfl, rfl⟩) ?_)
                 | ((with_reducible refine AW.draw mixedP ?_ ?_); (focus first | exact .inl rfl | exact .inr (by decide)); with_reducible refine adraw_go (by simp [List.replicate_succ]; first | exact rfl | exact ⟨rfl, rfl, rfl⟩) ?_)
                 | (with_reducible refine adraw_done (by kernel_rfl) ?_)
                 | ((with_reducible refine aBlk_miss ?_ ?_); focus decide)
                 | ((with_reducible refine cond_t ?_ ?_); focus (simp [ev]; done))
                 | ((with_reducible refine cond_f ?_ ?_); focus (simp [ev]; done)))
                simp [aRet, ares, aresL, ares1, V.pub, V.pubs, ldV, Try.results52, hI]
              | true =>
                rw [c5, Bool.true_and] at hI
                repeat (first
                 | (with_reducible first | refine AW.seq ?_ | refine AW.block ?_ | refine aThen_n ?_ | refine aBlk_n ?_ | refine AW.ret ?_ | refine aThen_r ?_ | refine aBlk_r ?_ | refine aops_done ?_ | refine AW.skip ?_ | refine AW.exit ?_ | refine aThen_e ?_ | refine aBlk_hit ?_ | refine AW.label ?_ | refine AW.scope ?_ | refine aNg_n ?_ | refine aNg_r ?_ | refine aNg_e ?_)
                 | ((with_reducible refine AW.region ?_); with_reducible refine aops_run (by simp [List.replicate_succ, hlt, hs, stretchesC, Stretch.row]; first | exact rfl | exact ⟨rfl, rfl⟩) ?_)
                 | ((with_reducible refine AW.draw mixedP ?_ ?_); (focus first | exact .inl rfl | exact .inr (by decide)); with_reducible refine adraw_go (by simp [List.replicate_succ, hlt, hs, stretchesC, Stretch.row]; first | exact rfl | exact ⟨rfl, rfl, rfl⟩) ?_)
                 | (with_reducible refine adraw_done (by kernel_rfl) ?_)
                 | ((with_reducible refine aBlk_miss ?_ ?_); focus decide)
                 | ((with_reducible refine cond_t ?_ ?_); focus (simp [ev, hlt, hs, stretchesC, Stretch.row]; done))
                 | ((with_reducible refine cond_f ?_ ?_); focus (simp [ev, hlt, hs, stretchesC, Stretch.row]; done)))
                (with_reducible first | refine aops_c (rstretch1_a f s hok hf.gl hns) Try.func94 (by kernel_rfl) (by kernel_rfl) ?_ ?_ ?_ | refine adraw_c (rstretch1_a f s hok hf.gl hns) Try.func94 (by kernel_rfl) (by kernel_rfl) ?_ ?_ ?_)
                focus (simp [gate, c5, stretchV, Stretch.row]; done)
                focus (simp [pubCall, c5, stretchV, Stretch.row]; done)
                first | (with_reducible refine aops_run (by simp [List.replicate_succ, c5, stretchV, Stretch.row]; first | exact rfl | exact ⟨rfl, rfl⟩) ?_) | (with_reducible refine adraw_go (by simp [List.replicate_succ, c5, stretchV, Stretch.row]; first | exact rfl | exact ⟨rfl, rfl, rfl⟩) ?_)
                repeat (first
                 | (with_reducible first | refine AW.seq ?_ | refine AW.block ?_ | refine aThen_n ?_ | refine aBlk_n ?_ | refine AW.ret ?_ | refine aThen_r ?_ | refine aBlk_r ?_ | refine aops_done ?_ | refine AW.skip ?_ | refine AW.exit ?_ | refine aThen_e ?_ | refine aBlk_hit ?_ | refine AW.label ?_ | refine AW.scope ?_ | refine aNg_n ?_ | refine aNg_r ?_ | refine aNg_e ?_)
                 | ((with_reducible refine AW.region ?_); with_reducible refine aops_run (by simp [List.replicate_succ]; first | exact rfl | exact ⟨rfl, rfl⟩) ?_)
                 | ((with_reducible refine AW.draw mixedP ?_ ?_); (focus first | exact .inl rfl | exact .inr (by decide)); with_reducible refine adraw_go (by simp [List.replicate_succ]; first | exact rfl | exact ⟨rfl, rfl, rfl⟩) ?_)
                 | (with_reducible refine adraw_done (by kernel_rfl) ?_)
                 | ((with_reducible refine aBlk_miss ?_ ?_); focus decide)
                 | ((with_reducible refine cond_t ?_ ?_); focus (simp [ev]; done))
                 | ((with_reducible refine cond_f ?_ ?_); focus (simp [ev]; done)))
                refine AW.loopH (ι := { j : Nat // j ≤ k ∧ hasStretch s.name (f.stretches.take k) = hasStretch s.name ((f.stretches.take k).drop j) }) (fun j => [(4, .c (.int .i64 (j.1 : Int))), (2, .c (.bool false))]) (fun _ => [.box 27 f.vs false]) (fun j => k - j.1) ⟨0, by simp⟩ _ (by simp only [wr, wrOps, List.cons_append, List.nil_append, List.append_nil, List.append_assoc]; exact rfl) _ (by simp only [havoc, List.foldl_cons, List.foldl_nil, List.set_cons_zero, List.set_cons_succ]; exact rfl) ?_ ?_
                all_goals simp only [puts, List.foldl_cons, List.foldl_nil, List.set_cons_zero, List.set_cons_succ]
                · refine Le.weak (by simp [subT])
                · rintro ⟨j, hj, hJ⟩
                  by_cases hjl : j < k
                  · have hj2 : j < f.stretches.length := by omega
                    obtain ⟨q, hq⟩ : ∃ q, f.stretches[j] = q := ⟨_, rfl⟩
                    have hd : (f.stretches.take k).drop j = q :: (f.stretches.take k).drop (j + 1) := by
                      rw [List.drop_eq_getElem_cons (by simp; omega)]
                      simp [hq]
                    rw [hd] at hJ
                    simp only [hasStretch] at hJ
                    by_cases he : q.name = s.name
                    · have e : f.valid = false := by rw [hI, hJ, decide_eq_true he]; rfl
                      repeat (first
                       | (with_reducible first | refine AW.seq ?_ | refine AW.block ?_ | refine aThen_n ?_ | refine aBlk_n ?_ | refine AW.ret ?_ | refine aThen_r ?_ | refine aBlk_r ?_ | refine aops_done ?_ | refine AW.skip ?_ | refine AW.exit ?_ | refine aThen_e ?_ | refine aBlk_hit ?_ | refine AW.label ?_ | refine AW.scope ?_ | refine aNg_n ?_ | refine aNg_r ?_ | refine aNg_e ?_)
                       | ((with_reducible refine AW.region ?_); with_reducible refine aops_run (by simp [List.replicate_succ, hjl, hj2, hq, hlt, hs, he, stretchesC, Stretch.row]; first | exact rfl | exact ⟨rfl, rfl⟩) ?_)
                       | ((with_reducible refine AW.draw mixedP ?_ ?_); (focus first | exact .inl rfl | exact .inr (by decide)); with_reducible refine adraw_go (by simp [List.replicate_succ, hjl, hj2, hq, hlt, hs, he, stretchesC, Stretch.row]; first | exact rfl | exact ⟨rfl, rfl, rfl⟩) ?_)
                       | (with_reducible refine adraw_done (by kernel_rfl) ?_)
                       | ((with_reducible refine aBlk_miss ?_ ?_); focus decide)
                       | ((with_reducible refine cond_t ?_ ?_); focus (simp [ev, hjl, hj2, hq, hlt, hs, he, stretchesC, Stretch.row]; done))
                       | ((with_reducible refine cond_f ?_ ?_); focus (simp [ev, hjl, hj2, hq, hlt, hs, he, stretchesC, Stretch.row]; done)))
                      simp [aRet, ares, aresL, ares1, V.pub, V.pubs, ldV, Try.results52, e]
                    · have hw2 : IntKind.i64.wrap ((j : Int) + 1) = ((j + 1 : Nat) : Int) := by rw [wrap_i64 (by omega) (by omega)]; simp
                      repeat (first
                       | (with_reducible first | refine AW.seq ?_ | refine AW.block ?_ | refine aThen_n ?_ | refine aBlk_n ?_ | refine AW.ret ?_ | refine aThen_r ?_ | refine aBlk_r ?_ | refine aops_done ?_ | refine AW.skip ?_ | refine AW.exit ?_ | refine aThen_e ?_ | refine aBlk_hit ?_ | refine AW.label ?_ | refine AW.scope ?_ | refine aNg_n ?_ | refine aNg_r ?_ | refine aNg_e ?_)
                       | ((with_reducible refine AW.region ?_); with_reducible refine aops_run (by simp [List.replicate_succ, hjl, hj2, hq, hlt, hs, he, stretchesC, Stretch.row, hw2]; first | exact rfl | exact ⟨rfl, rfl⟩) ?_)
                       | ((with_reducible refine AW.draw mixedP ?_ ?_); (focus first | exact .inl rfl | exact .inr (by decide)); with_reducible refine adraw_go (by simp [List.replicate_succ, hjl, hj2, hq, hlt, hs, he, stretchesC, Stretch.row, hw2]; first | exact rfl | exact ⟨rfl, rfl, rfl⟩) ?_)
                       | (with_reducible refine adraw_done (by kernel_rfl) ?_)
                       | ((with_reducible refine aBlk_miss ?_ ?_); focus decide)
                       | ((with_reducible refine cond_t ?_ ?_); focus (simp [ev, hjl, hj2, hq, hlt, hs, he, stretchesC, Stretch.row, hw2]; done))
                       | ((with_reducible refine cond_f ?_ ?_); focus (simp [ev, hjl, hj2, hq, hlt, hs, he, stretchesC, Stretch.row, hw2]; done)))
                      refine ⟨⟨j + 1, by omega, by rw [hJ, decide_eq_false he, Bool.false_or]⟩, by simp only; omega, ?_⟩
                      refine Le.weak (by simp [subT])
                  · have e : hasStretch s.name (f.stretches.take k) = false := by rw [hJ, List.drop_of_length_le (by simp; omega)]; rfl
                    repeat (first
                     | (with_reducible first | refine AW.seq ?_ | refine AW.block ?_ | refine aThen_n ?_ | refine aBlk_n ?_ | refine AW.ret ?_ | refine aThen_r ?_ | refine aBlk_r ?_ | refine aops_done ?_ | refine AW.skip ?_ | refine AW.exit ?_ | refine aThen_e ?_ | refine aBlk_hit ?_ | refine AW.label ?_ | refine AW.scope ?_ | refine aNg_n ?_ | refine aNg_r ?_ | refine aNg_e ?_)
                     | ((with_reducible refine AW.region ?_); with_reducible refine aops_run (by simp [List.replicate_succ, hjl, hw]; first | exact rfl | exact ⟨rfl, rfl⟩) ?_)
                     | ((with_reducible refine AW.draw mixedP ?_ ?_); (focus first | exact .inl rfl | exact .inr (by decide)); with_reducible refine adraw_go (by simp [List.replicate_succ, hjl, hw]; first | exact rfl | exact ⟨rfl, rfl, rfl⟩) ?_)
                     | (with_reducible refine adraw_done (by kernel_rfl) ?_)
                     | ((with_reducible refine aBlk_miss ?_ ?_); focus decide)
                     | ((with_reducible refine cond_t ?_ ?_); focus (simp [ev, hjl, hw]; done))
                     | ((with_reducible refine cond_f ?_ ?_); focus (simp [ev, hjl, hw]; done)))
                    refine ⟨⟨k + 1, by omega, by rw [hI, e]; rfl⟩, by simp only; omega, ?_⟩
                    refine Le.weak (by simp [subT])
            · have e : f.valid = true := by rw [hI, List.drop_of_length_le (by omega)]; rfl
              repeat (first
               | (with_reducible first | refine AW.seq ?_ | refine AW.block ?_ | refine aThen_n ?_ | refine aBlk_n ?_ | refine AW.ret ?_ | refine aThen_r ?_ | refine aBlk_r ?_ | refine aops_done ?_ | refine AW.skip ?_ | refine AW.exit ?_ | refine aThen_e ?_ | refine aBlk_hit ?_ | refine AW.label ?_ | refine AW.scope ?_ | refine aNg_n ?_ | refine aNg_r ?_ | refine aNg_e ?_)
               | ((with_reducible refine AW.region ?_); with_reducible refine aops_run (by simp [List.replicate_succ, hlt, stretchesC]; first | exact rfl | exact ⟨rfl, rfl⟩) ?_)
               | ((with_reducible refine AW.draw mixedP ?_ ?_); (focus first | exact .inl rfl | exact .inr (by decide)); with_reducible refine adraw_go (by simp [List.replicate_succ, hlt, stretchesC]; first | exact rfl | exact ⟨rfl, rfl, rfl⟩) ?_)
               | (with_reducible refine adraw_done (by kernel_rfl) ?_)
               | ((with_reducible refine aBlk_miss ?_ ?_); focus decide)
               | ((with_reducible refine cond_t ?_ ?_); focus (simp [ev, hlt, stretchesC]; done))
               | ((with_reducible refine cond_f ?_ ?_); focus (simp [ev, hlt, stretchesC]; done)))
              simp [aRet, ares, aresL, ares1, V.pub, V.pubs, ldV, Try.results52, e]
end Go.Proofs.Ythbcljjpmdfflaa
