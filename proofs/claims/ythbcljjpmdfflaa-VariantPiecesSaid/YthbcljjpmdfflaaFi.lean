/-
  Layer 5's reference on the abstract machine: which fonts are valid.
-/
import Derived.Test.YthbcljjpmdfflaaFh
namespace Go.Proofs.Ythbcljjpmdfflaa
open Go.RowKit
set_option linter.unusedSimpArgs false
set_option linter.unusedVariables false
set_option maxRecDepth 100000

theorem glyphOk_eq (g : Glyph) : glyphOk g = (nameB g.name && (inB (-20000) 20000 g.mets && decide (0 ≤ g.w))) := by
  unfold glyphOk
  cases nameB g.name with
  | false => rfl
  | true =>
    simp only [Bool.true_and]
    rw [Bool.eq_iff_iff]
    simp [inB, Glyph.mets]
    omega

set_option maxHeartbeats 1600000 in
theorem glyphs_a (l : List Glyph) (hl : l.length ≤ 1000) (hn : ∀ g ∈ l, g.name.size ≤ maxLen) : AC Try.prog 93 [.c (glyphsC l)] (.c (.bool (glyphsOk [] l))) := by
  refine AC.intro Try.func93 rfl ?_
  simp only [Try.ntmps93, List.map_cons, List.map_nil, List.length_cons, List.length_nil, Nat.reduceAdd, Nat.reduceSub, List.replicate_succ, List.replicate_zero, List.cons_append, List.nil_append]
  repeat (first
   | (with_reducible first | refine AW.seq ?_ | refine AW.block ?_ | refine aThen_n ?_ | refine aBlk_n ?_ | refine AW.ret ?_ | refine aThen_r ?_ | refine aBlk_r ?_ | refine aops_done ?_ | refine AW.skip ?_ | refine AW.exit ?_ | refine aThen_e ?_ | refine aBlk_hit ?_ | refine AW.label ?_ | refine AW.scope ?_ | refine aNg_n ?_ | refine aNg_r ?_ | refine aNg_e ?_)
   | ((with_reducible refine AW.region ?_); with_reducible refine aops_run (by simp [List.replicate_succ]; first | exact rfl | exact ⟨rfl, rfl⟩) ?_)
   | ((with_reducible refine AW.draw mixedP ?_ ?_); (focus first | exact .inl rfl | exact .inr (by decide)); with_reducible refine adraw_go (by simp [List.replicate_succ]; first | exact rfl | exact ⟨rfl, rfl, rfl⟩) ?_)
   | (with_reducible refine adraw_done (by kernel_rfl) ?_)
   | ((with_reducible refine aBlk_miss ?_ ?_); focus decide)
   | ((with_reducible refine cond_t ?_ ?_); focus (simp [ev]; done))
   | ((with_reducible refine cond_f ?_ ?_); focus (simp [ev]; done)))
  refine AW.loopH (ι := { k : Nat // k ≤ l.length ∧ glyphsOk [] l = glyphsOk (l.take k) (l.drop k) }) (fun k => [(3, .c (.int .i64 (k.1 : Int))), (2, .c (.bool false))]) (fun _ => []) (fun k => l.length - k.1) ⟨0, by simp⟩ _ (by simp only [wr, wrOps, List.cons_append, List.nil_append, List.append_nil, List.append_assoc]; exact rfl) _ (by simp only [havoc, List.foldl_cons, List.foldl_nil, List.set_cons_zero, List.set_cons_succ]; exact rfl) ?_ ?_
  all_goals simp only [puts, List.foldl_cons, List.foldl_nil, List.set_cons_zero, List.set_cons_succ]
  · refine Le.weak (by simp [subT])
  · rintro ⟨k, hk, hI⟩
    by_cases hlt : k < l.length
    · obtain ⟨g, hg⟩ : ∃ g, l[k] = g := ⟨_, rfl⟩
      have hns := hn l[k] (List.getElem_mem hlt)
      rw [hg] at hns
      have htk : l.take k ++ [g] = l.take (k + 1) := by rw [List.take_succ_eq_append_getElem hlt, hg]
      rw [List.drop_eq_getElem_cons hlt, hg] at hI
      simp only [glyphsOk] at hI
      rw [htk] at hI
      have hw : IntKind.i64.wrap ((k : Int) + 1) = ((k + 1 : Nat) : Int) := by rw [wrap_i64 (by omega) (by omega)]; simp
      cases c1 : nameB g.name with
      | false =>
        have e : glyphsOk [] l = false := by rw [hI, glyphOk_eq, c1]; rfl
        repeat (first
         | (with_reducible first | refine AW.seq ?_ | refine AW.block ?_ | refine aThen_n ?_ | refine aBlk_n ?_ | refine AW.ret ?_ | refine aThen_r ?_ | refine aBlk_r ?_ | refine aops_done ?_ | refine AW.skip ?_ | refine AW.exit ?_ | refine aThen_e ?_ | refine aBlk_hit ?_ | refine AW.label ?_ | refine AW.scope ?_ | refine aNg_n ?_ | refine aNg_r ?_ | refine aNg_e ?_)
         | ((with_reducible refine AW.region ?_); with_reducible refine aops_run (by simp [List.replicate_succ, hlt, hg, glyphsC, Glyph.row]; first | exact rfl | exact ⟨rfl, rfl⟩) ?_)
         | ((with_reducible refine AW.draw mixedP ?_ ?_); (focus first | exact .inl rfl | exact .inr (by decide)); with_reducible refine adraw_go (by simp [List.replicate_succ, hlt, hg, glyphsC, Glyph.row]; first | exact rfl | exact ⟨rfl, rfl, rfl⟩) ?_)
         | (with_reducible refine adraw_done (by kernel_rfl) ?_)
         | ((with_reducible refine aBlk_miss ?_ ?_); focus decide)
         | ((with_reducible refine cond_t ?_ ?_); focus (simp [ev, hlt, hg, glyphsC, Glyph.row]; done))
         | ((with_reducible refine cond_f ?_ ?_); focus (simp [ev, hlt, hg, glyphsC, Glyph.row]; done)))
        (with_reducible first | refine aops_c (name_a g.name hns) Try.func55 (by kernel_rfl) (by kernel_rfl) ?_ ?_ ?_ | refine adraw_c (name_a g.name hns) Try.func55 (by kernel_rfl) (by kernel_rfl) ?_ ?_ ?_)
        focus (simp [gate, c1]; done)
        focus (simp [pubCall, c1]; done)
        first | (with_reducible refine aops_run (by simp [List.replicate_succ, c1]; first | exact rfl | exact ⟨rfl, rfl⟩) ?_) | (with_reducible refine adraw_go (by simp [List.replicate_succ, c1]; first | exact rfl | exact ⟨rfl, rfl, rfl⟩) ?_)
        repeat (first
         | (with_reducible first | refine AW.seq ?_ | refine AW.block ?_ | refine aThen_n ?_ | refine aBlk_n ?_ | refine AW.ret ?_ | refine aThen_r ?_ | refine aBlk_r ?_ | refine aops_done ?_ | refine AW.skip ?_ | refine AW.exit ?_ | refine aThen_e ?_ | refine aBlk_hit ?_ | refine AW.label ?_ | refine AW.scope ?_ | refine aNg_n ?_ | refine aNg_r ?_ | refine aNg_e ?_)
         | ((with_reducible refine AW.region ?_); with_reducible refine aops_run (by simp [List.replicate_succ]; first | exact rfl | exact ⟨rfl, rfl⟩) ?_)
         | ((with_reducible refine AW.draw mixedP ?_ ?_); (focus first | exact .inl rfl | exact .inr (by decide)); with_reducible refine adraw_go (by simp [List.replicate_succ]; first | exact rfl | exact ⟨rfl, rfl, rfl⟩) ?_)
         | (with_reducible refine adraw_done (by kernel_rfl) ?_)
         | ((with_reducible refine aBlk_miss ?_ ?_); focus decide)
         | ((with_reducible refine cond_t ?_ ?_); focus (simp [ev]; done))
         | ((with_reducible refine cond_f ?_ ?_); focus (simp [ev]; done)))
        simp [aRet, ares, aresL, ares1, V.pub, V.pubs, ldV, Try.results93, e]
      | true =>
        cases c2 : inB (-20000) 20000 g.mets with
        | false =>
          have e : glyphsOk [] l = false := by rw [hI, glyphOk_eq, c1, c2]; rfl
          repeat (first
           | (with_reducible first | refine AW.seq ?_ | refine AW.block ?_ | refine aThen_n ?_ | refine aBlk_n ?_ | refine AW.ret ?_ | refine aThen_r ?_ | refine aBlk_r ?_ | refine aops_done ?_ | refine AW.skip ?_ | refine AW.exit ?_ | refine aThen_e ?_ | refine aBlk_hit ?_ | refine AW.label ?_ | refine AW.scope ?_ | refine aNg_n ?_ | refine aNg_r ?_ | refine aNg_e ?_)
           | ((with_reducible refine AW.region ?_); with_reducible refine aops_run (by simp [List.replicate_succ, hlt, hg, glyphsC, Glyph.row]; first | exact rfl | exact ⟨rfl, rfl⟩) ?_)
           | ((with_reducible refine AW.draw mixedP ?_ ?_); (focus first | exact .inl rfl | exact .inr (by decide)); with_reducible refine adraw_go (by simp [List.replicate_succ, hlt, hg, glyphsC, Glyph.row]; first | exact rfl | exact ⟨rfl, rfl, rfl⟩) ?_)
           | (with_reducible refine adraw_done (by kernel_rfl) ?_)
           | ((with_reducible refine aBlk_miss ?_ ?_); focus decide)
           | ((with_reducible refine cond_t ?_ ?_); focus (simp [ev, hlt, hg, glyphsC, Glyph.row]; done))
           | ((with_reducible refine cond_f ?_ ?_); focus (simp [ev, hlt, hg, glyphsC, Glyph.row]; done)))
          (with_reducible first | refine aops_c (name_a g.name hns) Try.func55 (by kernel_rfl) (by kernel_rfl) ?_ ?_ ?_ | refine adraw_c (name_a g.name hns) Try.func55 (by kernel_rfl) (by kernel_rfl) ?_ ?_ ?_)
          focus (simp [gate, c1, hlt, hg, Glyph.row, glyphV]; done)
          focus (simp [pubCall, c1, hlt, hg, Glyph.row, glyphV]; done)
          first | (with_reducible refine aops_run (by simp [List.replicate_succ, c1, hlt, hg, Glyph.row, glyphV]; first | exact rfl | exact ⟨rfl, rfl⟩) ?_) | (with_reducible refine adraw_go (by simp [List.replicate_succ, c1, hlt, hg, Glyph.row, glyphV]; first | exact rfl | exact ⟨rfl, rfl, rfl⟩) ?_)
          (with_reducible first | refine aops_c (metrics_a g) Try.func127 (by kernel_rfl) (by kernel_rfl) ?_ ?_ ?_ | refine adraw_c (metrics_a g) Try.func127 (by kernel_rfl) (by kernel_rfl) ?_ ?_ ?_)
          focus (simp [gate, c2, hlt, hg, Glyph.row, glyphV]; done)
          focus (simp [pubCall, c2, hlt, hg, Glyph.row, glyphV]; done)
          first | (with_reducible refine aops_run (by simp [List.replicate_succ, c2, hlt, hg, Glyph.row, glyphV]; first | exact rfl | exact ⟨rfl, rfl⟩) ?_) | (with_reducible refine adraw_go (by simp [List.replicate_succ, c2, hlt, hg, Glyph.row, glyphV]; first | exact rfl | exact ⟨rfl, rfl, rfl⟩) ?_)
          repeat (first
           | (with_reducible first | refine AW.seq ?_ | refine AW.block ?_ | refine aThen_n ?_ | refine aBlk_n ?_ | refine AW.ret ?_ | refine aThen_r ?_ | refine aBlk_r ?_ | refine aops_done ?_ | refine AW.skip ?_ | refine AW.exit ?_ | refine aThen_e ?_ | refine aBlk_hit ?_ | refine AW.label ?_ | refine AW.scope ?_ | refine aNg_n ?_ | refine aNg_r ?_ | refine aNg_e ?_)
           | ((with_reducible refine AW.region ?_); with_reducible refine aops_run (by simp [List.replicate_succ]; first | exact rfl | exact ⟨rfl, rfl⟩) ?_)
           | ((with_reducible refine AW.draw mixedP ?_ ?_); (focus first | exact .inl rfl | exact .inr (by decide)); with_reducible refine adraw_go (by simp [List.replicate_succ]; first | exact rfl | exact ⟨rfl, rfl, rfl⟩) ?_)
           | (with_reducible refine adraw_done (by kernel_rfl) ?_)
           | ((with_reducible refine aBlk_miss ?_ ?_); focus decide)
           | ((with_reducible refine cond_t ?_ ?_); focus (simp [ev]; done))
           | ((with_reducible refine cond_f ?_ ?_); focus (simp [ev]; done)))
          simp [aRet, ares, aresL, ares1, V.pub, V.pubs, ldV, Try.results93, e]
        | true =>
          by_cases c3 : g.w < 0
          · have e : glyphsOk [] l = false := by rw [hI, glyphOk_eq, c1, c2, decide_eq_false (show ¬ 0 ≤ g.w by omega)]; rfl
            repeat (first
             | (with_reducible first | refine AW.seq ?_ | refine AW.block ?_ | refine aThen_n ?_ | refine aBlk_n ?_ | refine AW.ret ?_ | refine aThen_r ?_ | refine aBlk_r ?_ | refine aops_done ?_ | refine AW.skip ?_ | refine AW.exit ?_ | refine aThen_e ?_ | refine aBlk_hit ?_ | refine AW.label ?_ | refine AW.scope ?_ | refine aNg_n ?_ | refine aNg_r ?_ | refine aNg_e ?_)
             | ((with_reducible refine AW.region ?_); with_reducible refine aops_run (by simp [List.replicate_succ, hlt, hg, glyphsC, Glyph.row]; first | exact rfl | exact ⟨rfl, rfl⟩) ?_)
             | ((with_reducible refine AW.draw mixedP ?_ ?_); (focus first | exact .inl rfl | exact .inr (by decide)); with_reducible refine adraw_go (by simp [List.replicate_succ, hlt, hg, glyphsC, Glyph.row]; first | exact rfl | exact ⟨rfl, rfl, rfl⟩) ?_)
             | (with_reducible refine adraw_done (by kernel_rfl) ?_)
             | ((with_reducible refine aBlk_miss ?_ ?_); focus decide)
             | ((with_reducible refine cond_t ?_ ?_); focus (simp [ev, hlt, hg, glyphsC, Glyph.row]; done))
             | ((with_reducible refine cond_f ?_ ?_); focus (simp [ev, hlt, hg, glyphsC, Glyph.row]; done)))
            (with_reducible first | refine aops_c (name_a g.name hns) Try.func55 (by kernel_rfl) (by kernel_rfl) ?_ ?_ ?_ | refine adraw_c (name_a g.name hns) Try.func55 (by kernel_rfl) (by kernel_rfl) ?_ ?_ ?_)
            focus (simp [gate, c1, hlt, hg, Glyph.row, glyphV]; done)
            focus (simp [pubCall, c1, hlt, hg, Glyph.row, glyphV]; done)
            first | (with_reducible refine aops_run (by simp [List.replicate_succ, c1, hlt, hg, Glyph.row, glyphV]; first | exact rfl | exact ⟨rfl, rfl⟩) ?_) | (with_reducible refine adraw_go (by simp [List.replicate_succ, c1, hlt, hg, Glyph.row, glyphV]; first | exact rfl | exact ⟨rfl, rfl, rfl⟩) ?_)
            (with_reducible first | refine aops_c (metrics_a g) Try.func127 (by kernel_rfl) (by kernel_rfl) ?_ ?_ ?_ | refine adraw_c (metrics_a g) Try.func127 (by kernel_rfl) (by kernel_rfl) ?_ ?_ ?_)
            focus (simp [gate, c2, hlt, hg, Glyph.row, glyphV, c3]; done)
            focus (simp [pubCall, c2, hlt, hg, Glyph.row, glyphV, c3]; done)
            first | (with_reducible refine aops_run (by simp [List.replicate_succ, c2, hlt, hg, Glyph.row, glyphV, c3]; first | exact rfl | exact ⟨rfl, rfl⟩) ?_) | (with_reducible refine adraw_go (by simp [List.replicate_succ, c2, hlt, hg, Glyph.row, glyphV, c3]; first | exact rfl | exact ⟨rfl, rfl, rfl⟩) ?_)
            repeat (first
             | (with_reducible first | refine AW.seq ?_ | refine AW.block ?_ | refine aThen_n ?_ | refine aBlk_n ?_ | refine AW.ret ?_ | refine aThen_r ?_ | refine aBlk_r ?_ | refine aops_done ?_ | refine AW.skip ?_ | refine AW.exit ?_ | refine aThen_e ?_ | refine aBlk_hit ?_ | refine AW.label ?_ | refine AW.scope ?_ | refine aNg_n ?_ | refine aNg_r ?_ | refine aNg_e ?_)
             | ((with_reducible refine AW.region ?_); with_reducible refine aops_run (by simp [List.replicate_succ]; first | exact rfl | exact ⟨rfl, rfl⟩) ?_)
             | ((with_reducible refine AW.draw mixedP ?_ ?_); (focus first | exact .inl rfl | exact .inr (by decide)); with_reducible refine adraw_go (by simp [List.replicate_succ]; first | exact rfl | exact ⟨rfl, rfl, rfl⟩) ?_)
             | (with_reducible refine adraw_done (by kernel_rfl) ?_)
             | ((with_reducible refine aBlk_miss ?_ ?_); focus decide)
             | ((with_reducible refine cond_t ?_ ?_); focus (simp [ev]; done))
             | ((with_reducible refine cond_f ?_ ?_); focus (simp [ev]; done)))
            simp [aRet, ares, aresL, ares1, V.pub, V.pubs, ldV, Try.results93, e]
          · rw [glyphOk_eq, c1, c2, decide_eq_true (show 0 ≤ g.w by omega)] at hI
            simp only [Bool.true_and, Bool.and_self] at hI
            repeat (first
             | (with_reducible first | refine AW.seq ?_ | refine AW.block ?_ | refine aThen_n ?_ | refine aBlk_n ?_ | refine AW.ret ?_ | refine aThen_r ?_ | refine aBlk_r ?_ | refine aops_done ?_ | refine AW.skip ?_ | refine AW.exit ?_ | refine aThen_e ?_ | refine aBlk_hit ?_ | refine AW.label ?_ | refine AW.scope ?_ | refine aNg_n ?_ | refine aNg_r ?_ | refine aNg_e ?_)
             | ((with_reducible refine AW.region ?_); with_reducible refine aops_run (by simp [List.replicate_succ, hlt, hg, glyphsC, Glyph.row]; first | exact rfl | exact ⟨rfl, rfl⟩) ?_)
             | ((with_reducible refine AW.draw mixedP ?_ ?_); (focus first | exact .inl rfl | exact .inr (by decide)); with_reducible refine adraw_go (by simp [List.replicate_succ, hlt, hg, glyphsC, Glyph.row]; first | exact rfl | exact ⟨rfl, rfl, rfl⟩) ?_)
             | (with_reducible refine adraw_done (by kernel_rfl) ?_)
             | ((with_reducible refine aBlk_miss ?_ ?_); focus decide)
             | ((with_reducible refine cond_t ?_ ?_); focus (simp [ev, hlt, hg, glyphsC, Glyph.row]; done))
             | ((with_reducible refine cond_f ?_ ?_); focus (simp [ev, hlt, hg, glyphsC, Glyph.row]; done)))
            (with_reducible first | refine aops_c (name_a g.name hns) Try.func55 (by kernel_rfl) (by kernel_rfl) ?_ ?_ ?_ | refine adraw_c (name_a g.name hns) Try.func55 (by kernel_rfl) (by kernel_rfl) ?_ ?_ ?_)
            focus (simp [gate, c1, hlt, hg, Glyph.row, glyphV]; done)
            focus (simp [pubCall, c1, hlt, hg, Glyph.row, glyphV]; done)
            first | (with_reducible refine aops_run (by simp [List.replicate_succ, c1, hlt, hg, Glyph.row, glyphV]; first | exact rfl | exact ⟨rfl, rfl⟩) ?_) | (with_reducible refine adraw_go (by simp [List.replicate_succ, c1, hlt, hg, Glyph.row, glyphV]; first | exact rfl | exact ⟨rfl, rfl, rfl⟩) ?_)
            (with_reducible first | refine aops_c (metrics_a g) Try.func127 (by kernel_rfl) (by kernel_rfl) ?_ ?_ ?_ | refine adraw_c (metrics_a g) Try.func127 (by kernel_rfl) (by kernel_rfl) ?_ ?_ ?_)
            focus (simp [gate, c2, hlt, hg, Glyph.row, glyphV, c3]; done)
            focus (simp [pubCall, c2, hlt, hg, Glyph.row, glyphV, c3]; done)
            first | (with_reducible refine aops_run (by simp [List.replicate_succ, c2, hlt, hg, Glyph.row, glyphV, c3]; first | exact rfl | exact ⟨rfl, rfl⟩) ?_) | (with_reducible refine adraw_go (by simp [List.replicate_succ, c2, hlt, hg, Glyph.row, glyphV, c3]; first | exact rfl | exact ⟨rfl, rfl, rfl⟩) ?_)
            repeat (first
             | (with_reducible first | refine AW.seq ?_ | refine AW.block ?_ | refine aThen_n ?_ | refine aBlk_n ?_ | refine AW.ret ?_ | refine aThen_r ?_ | refine aBlk_r ?_ | refine aops_done ?_ | refine AW.skip ?_ | refine AW.exit ?_ | refine aThen_e ?_ | refine aBlk_hit ?_ | refine AW.label ?_ | refine AW.scope ?_ | refine aNg_n ?_ | refine aNg_r ?_ | refine aNg_e ?_)
             | ((with_reducible refine AW.region ?_); with_reducible refine aops_run (by simp [List.replicate_succ]; first | exact rfl | exact ⟨rfl, rfl⟩) ?_)
             | ((with_reducible refine AW.draw mixedP ?_ ?_); (focus first | exact .inl rfl | exact .inr (by decide)); with_reducible refine adraw_go (by simp [List.replicate_succ]; first | exact rfl | exact ⟨rfl, rfl, rfl⟩) ?_)
             | (with_reducible refine adraw_done (by kernel_rfl) ?_)
             | ((with_reducible refine aBlk_miss ?_ ?_); focus decide)
             | ((with_reducible refine cond_t ?_ ?_); focus (simp [ev]; done))
             | ((with_reducible refine cond_f ?_ ?_); focus (simp [ev]; done)))
            refine AW.loopH (ι := { j : Nat // j ≤ k ∧ hasName g.name (l.take k) = hasName g.name ((l.take k).drop j) }) (fun j => [(4, .c (.int .i64 (j.1 : Int))), (2, .c (.bool false))]) (fun _ => []) (fun j => k - j.1) ⟨0, by simp⟩ _ (by simp only [wr, wrOps, List.cons_append, List.nil_append, List.append_nil, List.append_assoc]; exact rfl) _ (by simp only [havoc, List.foldl_cons, List.foldl_nil, List.set_cons_zero, List.set_cons_succ]; exact rfl) ?_ ?_
            all_goals simp only [puts, List.foldl_cons, List.foldl_nil, List.set_cons_zero, List.set_cons_succ]
            · refine Le.weak (by simp [subT])
            · rintro ⟨j, hj, hJ⟩
              by_cases hjl : j < k
              · have hj2 : j < l.length := by omega
                obtain ⟨q, hq⟩ : ∃ q, l[j] = q := ⟨_, rfl⟩
                have hd : (l.take k).drop j = q :: (l.take k).drop (j + 1) := by
                  rw [List.drop_eq_getElem_cons (by simp; omega)]
                  simp [hq]
                rw [hd] at hJ
                simp only [hasName] at hJ
                by_cases he : q.name = g.name
                · have e : glyphsOk [] l = false := by rw [hI, hJ, decide_eq_true he]; rfl
                  repeat (first
                   | (with_reducible first | refine AW.seq ?_ | refine AW.block ?_ | refine aThen_n ?_ | refine aBlk_n ?_ | refine AW.ret ?_ | refine aThen_r ?_ | refine aBlk_r ?_ | refine aops_done ?_ | refine AW.skip ?_ | refine AW.exit ?_ | refine aThen_e ?_ | refine aBlk_hit ?_ | refine AW.label ?_ | refine AW.scope ?_ | refine aNg_n ?_ | refine aNg_r ?_ | refine aNg_e ?_)
                   | ((with_reducible refine AW.region ?_); with_reducible refine aops_run (by simp [List.replicate_succ, hjl, hj2, hq, hlt, hg, he, glyphsC, Glyph.row]; first | exact rfl | exact ⟨rfl, rfl⟩) ?_)
                   | ((with_reducible refine AW.draw mixedP ?_ ?_); (focus first | exact .inl rfl | exact .inr (by decide)); with_reducible refine adraw_go (by simp [List.replicate_succ, hjl, hj2, hq, hlt, hg, he, glyphsC, Glyph.row]; first | exact rfl | exact ⟨rfl, rfl, rfl⟩) ?_)
                   | (with_reducible refine adraw_done (by kernel_rfl) ?_)
                   | ((with_reducible refine aBlk_miss ?_ ?_); focus decide)
                   | ((with_reducible refine cond_t ?_ ?_); focus (simp [ev, hjl, hj2, hq, hlt, hg, he, glyphsC, Glyph.row]; done))
                   | ((with_reducible refine cond_f ?_ ?_); focus (simp [ev, hjl, hj2, hq, hlt, hg, he, glyphsC, Glyph.row]; done)))
                  simp [aRet, ares, aresL, ares1, V.pub, V.pubs, ldV, Try.results93, e]
                · have hw2 : IntKind.i64.wrap ((j : Int) + 1) = ((j + 1 : Nat) : Int) := by rw [wrap_i64 (by omega) (by omega)]; simp
                  repeat (first
                   | (with_reducible first | refine AW.seq ?_ | refine AW.block ?_ | refine aThen_n ?_ | refine aBlk_n ?_ | refine AW.ret ?_ | refine aThen_r ?_ | refine aBlk_r ?_ | refine aops_done ?_ | refine AW.skip ?_ | refine AW.exit ?_ | refine aThen_e ?_ | refine aBlk_hit ?_ | refine AW.label ?_ | refine AW.scope ?_ | refine aNg_n ?_ | refine aNg_r ?_ | refine aNg_e ?_)
                   | ((with_reducible refine AW.region ?_); with_reducible refine aops_run (by simp [List.replicate_succ, hjl, hj2, hq, hlt, hg, he, glyphsC, Glyph.row, hw2]; first | exact rfl | exact ⟨rfl, rfl⟩) ?_)
                   | ((with_reducible refine AW.draw mixedP ?_ ?_); (focus first | exact .inl rfl | exact .inr (by decide)); with_reducible refine adraw_go (by simp [List.replicate_succ, hjl, hj2, hq, hlt, hg, he, glyphsC, Glyph.row, hw2]; first | exact rfl | exact ⟨rfl, rfl, rfl⟩) ?_)
                   | (with_reducible refine adraw_done (by kernel_rfl) ?_)
                   | ((with_reducible refine aBlk_miss ?_ ?_); focus decide)
                   | ((with_reducible refine cond_t ?_ ?_); focus (simp [ev, hjl, hj2, hq, hlt, hg, he, glyphsC, Glyph.row, hw2]; done))
                   | ((with_reducible refine cond_f ?_ ?_); focus (simp [ev, hjl, hj2, hq, hlt, hg, he, glyphsC, Glyph.row, hw2]; done)))
                  refine ⟨⟨j + 1, by omega, by rw [hJ, decide_eq_false he, Bool.false_or]⟩, by simp only; omega, ?_⟩
                  refine Le.weak (by simp [subT])
              · have e : hasName g.name (l.take k) = false := by rw [hJ, List.drop_of_length_le (by simp; omega)]; rfl
                repeat (first
                 | (with_reducible first | refine AW.seq ?_ | refine AW.block ?_ | refine aThen_n ?_ | refine aBlk_n ?_ | refine AW.ret ?_ | refine aThen_r ?_ | refine aBlk_r ?_ | refine aops_done ?_ | refine AW.skip ?_ | refine AW.exit ?_ | refine aThen_e ?_ | refine aBlk_hit ?_ | refine AW.label ?_ | refine AW.scope ?_ | refine aNg_n ?_ | refine aNg_r ?_ | refine aNg_e ?_)
                 | ((with_reducible refine AW.region ?_); with_reducible refine aops_run (by simp [List.replicate_succ, hjl, hw]; first | exact rfl | exact ⟨rfl, rfl⟩) ?_)
                 | ((with_reducible refine AW.draw mixedP ?_ ?_); (focus first | exact .inl rfl | exact .inr (by decide)); with_reducible refine adraw_go (by simp [List.replicate_succ, hjl, hw]; first | exact rfl | exact ⟨rfl, rfl, rfl⟩) ?_)
                 | (with_reducible refine adraw_done (by kernel_rfl) ?_)
                 | ((with_reducible refine aBlk_miss ?_ ?_); focus decide)
                 | ((with_reducible refine cond_t ?_ ?_); focus (simp [ev, hjl, hw]; done))
                 | ((with_reducible refine cond_f ?_ ?_); focus (simp [ev, hjl, hw]; done)))
                refine ⟨⟨k + 1, by omega, by rw [hI, e]; rfl⟩, by simp only; omega, ?_⟩
                refine Le.weak (by simp [subT, glyphsC])
    · have e : glyphsOk [] l = true := by rw [hI, List.drop_of_length_le (by omega)]; rfl
      repeat (first
       | (with_reducible first | refine AW.seq ?_ | refine AW.block ?_ | refine aThen_n ?_ | refine aBlk_n ?_ | refine AW.ret ?_ | refine aThen_r ?_ | refine aBlk_r ?_ | refine aops_done ?_ | refine AW.skip ?_ | refine AW.exit ?_ | refine aThen_e ?_ | refine aBlk_hit ?_ | refine AW.label ?_ | refine AW.scope ?_ | refine aNg_n ?_ | refine aNg_r ?_ | refine aNg_e ?_)
       | ((with_reducible refine AW.region ?_); with_reducible refine aops_run (by simp [List.replicate_succ, hlt, glyphsC]; first | exact rfl | exact ⟨rfl, rfl⟩) ?_)
       | ((with_reducible refine AW.draw mixedP ?_ ?_); (focus first | exact .inl rfl | exact .inr (by decide)); with_reducible refine adraw_go (by simp [List.replicate_succ, hlt, glyphsC]; first | exact rfl | exact ⟨rfl, rfl, rfl⟩) ?_)
       | (with_reducible refine adraw_done (by kernel_rfl) ?_)
       | ((with_reducible refine aBlk_miss ?_ ?_); focus decide)
       | ((with_reducible refine cond_t ?_ ?_); focus (simp [ev, hlt, glyphsC]; done))
       | ((with_reducible refine cond_f ?_ ?_); focus (simp [ev, hlt, glyphsC]; done)))
      simp [aRet, ares, aresL, ares1, V.pub, V.pubs, ldV, Try.results93, e]
end Go.Proofs.Ythbcljjpmdfflaa
