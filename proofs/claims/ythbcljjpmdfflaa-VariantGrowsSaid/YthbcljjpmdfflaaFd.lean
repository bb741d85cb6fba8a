/-
  Layer 5 on the abstract machine: numbers in ranges, scaling.
-/
import Derived.Test.YthbcljjpmdfflaaFc
namespace Go.Proofs.Ythbcljjpmdfflaa
open Go.RowKit
set_option linter.unusedSimpArgs false
set_option linter.unusedVariables false
set_option maxRecDepth 100000

theorem within_a (lo hi : Int) (l : List Int) (hl : l.length ≤ maxLen) : AC Try.prog 123 [.c (.int .i64 lo), .c (.int .i64 hi), .c (intsC l)] (.c (.bool (inB lo hi l))) := by
  unfold maxLen at hl
  refine AC.intro Try.func123 rfl ?_
  simp only [Try.ntmps123, List.map_cons, List.map_nil, List.length_cons, List.length_nil, Nat.reduceAdd, Nat.reduceSub, List.replicate_succ, List.replicate_zero, List.cons_append, List.nil_append]
  repeat (first
   | (with_reducible first | refine AW.seq ?_ | refine AW.block ?_ | refine aThen_n ?_ | refine aBlk_n ?_ | refine AW.ret ?_ | refine aThen_r ?_ | refine aBlk_r ?_ | refine aops_done ?_ | refine AW.skip ?_ | refine AW.exit ?_ | refine aThen_e ?_ | refine aBlk_hit ?_ | refine AW.label ?_ | refine AW.scope ?_ | refine aNg_n ?_ | refine aNg_r ?_ | refine aNg_e ?_)
   | ((with_reducible refine AW.region ?_); with_reducible refine aops_run (by simp [List.replicate_succ, intsC]; first | exact rfl | exact ⟨rfl, rfl⟩) ?_)
   | ((with_reducible refine AW.draw mixedP ?_ ?_); (focus first | exact .inl rfl | exact .inr (by decide)); with_reducible refine adraw_go (by simp [List.replicate_succ, intsC]; first | exact rfl | exact ⟨rfl, rfl, rfl⟩) ?_)
   | (with_reducible refine adraw_done (by kernel_rfl) ?_)
   | ((with_reducible refine aBlk_miss ?_ ?_); focus decide)
   | ((with_reducible refine cond_t ?_ ?_); focus (simp [ev, intsC]; done))
   | ((with_reducible refine cond_f ?_ ?_); focus (simp [ev, intsC]; done)))
  refine AW.loopH (ι := { k : Nat // k ≤ l.length ∧ inB lo hi l = inB lo hi (l.drop k) }) (fun k => [(11, .c (.int .i64 (k.1 : Int))), (6, .c (.bool false))]) (fun _ => []) (fun k => l.length - k.1) ⟨0, by simp⟩ _ (by simp only [wr, wrOps, List.cons_append, List.nil_append, List.append_nil, List.append_assoc]; exact rfl) _ (by simp only [havoc, List.foldl_cons, List.foldl_nil, List.set_cons_zero, List.set_cons_succ]; exact rfl) ?_ ?_
  all_goals simp only [puts, List.foldl_cons, List.foldl_nil, List.set_cons_zero, List.set_cons_succ]
  · refine Le.weak (by simp [subT])
  · rintro ⟨k, hk, hI⟩
    by_cases hlt : k < l.length
    · obtain ⟨n, hn⟩ : ∃ n, l[k] = n := ⟨_, rfl⟩
      rw [List.drop_eq_getElem_cons hlt, hn] at hI
      by_cases h1 : n < lo
      · have e : inB lo hi l = false := by rw [hI]; simp [inB]; omega
        repeat (first
         | (with_reducible first | refine AW.seq ?_ | refine AW.block ?_ | refine aThen_n ?_ | refine aBlk_n ?_ | refine AW.ret ?_ | refine aThen_r ?_ | refine aBlk_r ?_ | refine aops_done ?_ | refine AW.skip ?_ | refine AW.exit ?_ | refine aThen_e ?_ | refine aBlk_hit ?_ | refine AW.label ?_ | refine AW.scope ?_ | refine aNg_n ?_ | refine aNg_r ?_ | refine aNg_e ?_)
         | ((with_reducible refine AW.region ?_); with_reducible refine aops_run (by simp [List.replicate_succ, hlt, hn, h1, intsC]; first | exact rfl | exact ⟨rfl, rfl⟩) ?_)
         | ((with_reducible refine AW.draw mixedP ?_ ?_); (focus first | exact .inl rfl | exact .inr (by decide)); with_reducible refine adraw_go (by simp [List.replicate_succ, hlt, hn, h1, intsC]; first | exact rfl | exact ⟨rfl, rfl, rfl⟩) ?_)
         | (with_reducible refine adraw_done (by kernel_rfl) ?_)
         | ((with_reducible refine aBlk_miss ?_ ?_); focus decide)
         | ((with_reducible refine cond_t ?_ ?_); focus (simp [ev, hlt, hn, h1, intsC]; done))
         | ((with_reducible refine cond_f ?_ ?_); focus (simp [ev, hlt, hn, h1, intsC]; done)))
        simp [aRet, ares, aresL, ares1, V.pub, V.pubs, ldV, Try.results123, e]
      · by_cases h2 : hi < n
        · have e : inB lo hi l = false := by rw [hI]; simp [inB]; omega
          repeat (first
           | (with_reducible first | refine AW.seq ?_ | refine AW.block ?_ | refine aThen_n ?_ | refine aBlk_n ?_ | refine AW.ret ?_ | refine aThen_r ?_ | refine aBlk_r ?_ | refine aops_done ?_ | refine AW.skip ?_ | refine AW.exit ?_ | refine aThen_e ?_ | refine aBlk_hit ?_ | refine AW.label ?_ | refine AW.scope ?_ | refine aNg_n ?_ | refine aNg_r ?_ | refine aNg_e ?_)
           | ((with_reducible refine AW.region ?_); with_reducible refine aops_run (by simp [List.replicate_succ, hlt, hn, h1, h2, intsC]; first | exact rfl | exact ⟨rfl, rfl⟩) ?_)
           | ((with_reducible refine AW.draw mixedP ?_ ?_); (focus first | exact .inl rfl | exact .inr (by decide)); with_reducible refine adraw_go (by simp [List.replicate_succ, hlt, hn, h1, h2, intsC]; first | exact rfl | exact ⟨rfl, rfl, rfl⟩) ?_)
           | (with_reducible refine adraw_done (by kernel_rfl) ?_)
           | ((with_reducible refine aBlk_miss ?_ ?_); focus decide)
           | ((with_reducible refine cond_t ?_ ?_); focus (simp [ev, hlt, hn, h1, h2, intsC]; done))
           | ((with_reducible refine cond_f ?_ ?_); focus (simp [ev, hlt, hn, h1, h2, intsC]; done)))
          simp [aRet, ares, aresL, ares1, V.pub, V.pubs, ldV, Try.results123, e]
        · have hw : IntKind.i64.wrap ((k : Int) + 1) = ((k + 1 : Nat) : Int) := by rw [wrap_i64 (by omega) (by omega)]; simp
          repeat (first
           | (with_reducible first | refine AW.seq ?_ | refine AW.block ?_ | refine aThen_n ?_ | refine aBlk_n ?_ | refine AW.ret ?_ | refine aThen_r ?_ | refine aBlk_r ?_ | refine aops_done ?_ | refine AW.skip ?_ | refine AW.exit ?_ | refine aThen_e ?_ | refine aBlk_hit ?_ | refine AW.label ?_ | refine AW.scope ?_ | refine aNg_n ?_ | refine aNg_r ?_ | refine aNg_e ?_)
           | ((with_reducible refine AW.region ?_); with_reducible refine aops_run (by simp [List.replicate_succ, hlt, hn, h1, h2, intsC, hw]; first | exact rfl | exact ⟨rfl, rfl⟩) ?_)
           | ((with_reducible refine AW.draw mixedP ?_ ?_); (focus first | exact .inl rfl | exact .inr (by decide)); with_reducible refine adraw_go (by simp [List.replicate_succ, hlt, hn, h1, h2, intsC, hw]; first | exact rfl | exact ⟨rfl, rfl, rfl⟩) ?_)
           | (with_reducible refine adraw_done (by kernel_rfl) ?_)
           | ((with_reducible refine aBlk_miss ?_ ?_); focus decide)
           | ((with_reducible refine cond_t ?_ ?_); focus (simp [ev, hlt, hn, h1, h2, intsC, hw]; done))
           | ((with_reducible refine cond_f ?_ ?_); focus (simp [ev, hlt, hn, h1, h2, intsC, hw]; done)))
          refine ⟨⟨k + 1, by omega, by rw [hI]; simp [inB]; omega⟩, by simp only; omega, ?_⟩
          refine Le.weak (by simp [subT])
    · have e : inB lo hi l = true := by rw [hI, List.drop_of_length_le (by omega)]; rfl
      repeat (first
       | (with_reducible first | refine AW.seq ?_ | refine AW.block ?_ | refine aThen_n ?_ | refine aBlk_n ?_ | refine AW.ret ?_ | refine aThen_r ?_ | refine aBlk_r ?_ | refine aops_done ?_ | refine AW.skip ?_ | refine AW.exit ?_ | refine aThen_e ?_ | refine aBlk_hit ?_ | refine AW.label ?_ | refine AW.scope ?_ | refine aNg_n ?_ | refine aNg_r ?_ | refine aNg_e ?_)
       | ((with_reducible refine AW.region ?_); with_reducible refine aops_run (by simp [List.replicate_succ, hlt, intsC]; first | exact rfl | exact ⟨rfl, rfl⟩) ?_)
       | ((with_reducible refine AW.draw mixedP ?_ ?_); (focus first | exact .inl rfl | exact .inr (by decide)); with_reducible refine adraw_go (by simp [List.replicate_succ, hlt, intsC]; first | exact rfl | exact ⟨rfl, rfl, rfl⟩) ?_)
       | (with_reducible refine adraw_done (by kernel_rfl) ?_)
       | ((with_reducible refine aBlk_miss ?_ ?_); focus decide)
       | ((with_reducible refine cond_t ?_ ?_); focus (simp [ev, hlt, intsC]; done))
       | ((with_reducible refine cond_f ?_ ?_); focus (simp [ev, hlt, intsC]; done)))
      simp [aRet, ares, aresL, ares1, V.pub, V.pubs, ldV, Try.results123, e]

theorem rwithin_a (n lo hi : Int) : AC Try.prog 126 [.c (.int .i64 n), .c (.int .i64 lo), .c (.int .i64 hi)] (.c (.bool (inB lo hi [n]))) := by
  by_cases h1 : lo ≤ n
  · refine AC.intro Try.func126 rfl ?_
    simp only [Try.ntmps126, List.map_cons, List.map_nil, List.length_cons, List.length_nil, Nat.reduceAdd, Nat.reduceSub, List.replicate_succ, List.replicate_zero, List.cons_append, List.nil_append]
    repeat (first
     | (with_reducible first | refine AW.seq ?_ | refine AW.block ?_ | refine aThen_n ?_ | refine aBlk_n ?_ | refine AW.ret ?_ | refine aThen_r ?_ | refine aBlk_r ?_ | refine aops_done ?_ | refine AW.skip ?_ | refine AW.exit ?_ | refine aThen_e ?_ | refine aBlk_hit ?_ | refine AW.label ?_ | refine AW.scope ?_ | refine aNg_n ?_ | refine aNg_r ?_ | refine aNg_e ?_)
     | ((with_reducible refine AW.region ?_); with_reducible refine aops_run (by simp [List.replicate_succ, h1]; first | exact rfl | exact ⟨rfl, rfl⟩) ?_)
     | ((with_reducible refine AW.draw mixedP ?_ ?_); (focus first | exact .inl rfl | exact .inr (by decide)); with_reducible refine adraw_go (by simp [List.replicate_succ, h1]; first | exact rfl | exact ⟨rfl, rfl, rfl⟩) ?_)
     | (with_reducible refine adraw_done (by kernel_rfl) ?_)
     | ((with_reducible refine aBlk_miss ?_ ?_); focus decide)
     | ((with_reducible refine cond_t ?_ ?_); focus (simp [ev, h1]; done))
     | ((with_reducible refine cond_f ?_ ?_); focus (simp [ev, h1]; done)))
    simp [aRet, ares, aresL, ares1, V.pub, V.pubs, ldV, Try.results126, inB, h1]
  · refine AC.intro Try.func126 rfl ?_
    simp only [Try.ntmps126, List.map_cons, List.map_nil, List.length_cons, List.length_nil, Nat.reduceAdd, Nat.reduceSub, List.replicate_succ, List.replicate_zero, List.cons_append, List.nil_append]
    repeat (first
     | (with_reducible first | refine AW.seq ?_ | refine AW.block ?_ | refine aThen_n ?_ | refine aBlk_n ?_ | refine AW.ret ?_ | refine aThen_r ?_ | refine aBlk_r ?_ | refine aops_done ?_ | refine AW.skip ?_ | refine AW.exit ?_ | refine aThen_e ?_ | refine aBlk_hit ?_ | refine AW.label ?_ | refine AW.scope ?_ | refine aNg_n ?_ | refine aNg_r ?_ | refine aNg_e ?_)
     | ((with_reducible refine AW.region ?_); with_reducible refine aops_run (by simp [List.replicate_succ, h1]; first | exact rfl | exact ⟨rfl, rfl⟩) ?_)
     | ((with_reducible refine AW.draw mixedP ?_ ?_); (focus first | exact .inl rfl | exact .inr (by decide)); with_reducible refine adraw_go (by simp [List.replicate_succ, h1]; first | exact rfl | exact ⟨rfl, rfl, rfl⟩) ?_)
     | (with_reducible refine adraw_done (by kernel_rfl) ?_)
     | ((with_reducible refine aBlk_miss ?_ ?_); focus decide)
     | ((with_reducible refine cond_t ?_ ?_); focus (simp [ev, h1]; done))
     | ((with_reducible refine cond_f ?_ ?_); focus (simp [ev, h1]; done)))
    simp [aRet, ares, aresL, ares1, V.pub, V.pubs, ldV, Try.results126, inB, h1]

theorem metrics_a (g : Glyph) : AC Try.prog 127 [glyphV g] (.c (.bool (inB (-20000) 20000 g.mets))) := by
  unfold glyphV
  refine AC.intro Try.func127 rfl ?_
  simp only [Try.ntmps127, List.map_cons, List.map_nil, List.length_cons, List.length_nil, Nat.reduceAdd, Nat.reduceSub, List.replicate_succ, List.replicate_zero, List.cons_append, List.nil_append, Glyph.row]
  repeat (first
   | (with_reducible first | refine AW.seq ?_ | refine AW.block ?_ | refine aThen_n ?_ | refine aBlk_n ?_ | refine AW.ret ?_ | refine aThen_r ?_ | refine aBlk_r ?_ | refine aops_done ?_ | refine AW.skip ?_ | refine AW.exit ?_ | refine aThen_e ?_ | refine aBlk_hit ?_ | refine AW.label ?_ | refine AW.scope ?_ | refine aNg_n ?_ | refine aNg_r ?_ | refine aNg_e ?_)
   | ((with_reducible refine AW.region ?_); with_reducible refine aops_run (by simp [List.replicate_succ]; first | exact rfl | exact ⟨rfl, rfl⟩) ?_)
   | ((with_reducible refine AW.draw mixedP ?_ ?_); (focus first | exact .inl rfl | exact .inr (by decide)); with_reducible refine adraw_go (by simp [List.replicate_succ]; first | exact rfl | exact ⟨rfl, rfl, rfl⟩) ?_)
   | (with_reducible refine adraw_done (by kernel_rfl) ?_)
   | ((with_reducible refine aBlk_miss ?_ ?_); focus decide)
   | ((with_reducible refine cond_t ?_ ?_); focus (simp [ev]; done))
   | ((with_reducible refine cond_f ?_ ?_); focus (simp [ev]; done)))
  refine AW.loopH (ι := { k : Nat // k ≤ 5 ∧ inB (-20000) 20000 g.mets = inB (-20000) 20000 (g.mets.drop k) }) (fun k => [(4, .c (.int .i64 (k.1 : Int))), (2, .c (.bool false))]) (fun _ => [.box 102 (g.row.map V.c) false]) (fun k => 5 - k.1) ⟨0, by simp⟩ _ (by simp only [wr, wrOps, List.cons_append, List.nil_append, List.append_nil, List.append_assoc]; exact rfl) _ (by simp only [havoc, List.foldl_cons, List.foldl_nil, List.set_cons_zero, List.set_cons_succ]; exact rfl) ?_ ?_
  all_goals simp only [puts, List.foldl_cons, List.foldl_nil, List.set_cons_zero, List.set_cons_succ]
  · refine Le.weak (by simp [subT, Glyph.row])
  · rintro ⟨k, hk, hI⟩
    by_cases hlt : k < 5
    · have hll : g.mets.length = 5 := rfl
      obtain ⟨n, hn⟩ : ∃ n, g.mets[k]'(by rw [hll]; exact hlt) = n := ⟨_, rfl⟩
      rw [List.drop_eq_getElem_cons (by rw [hll]; exact hlt), hn] at hI
      have hrow : ([[C.int IntKind.i64 g.w], [C.int IntKind.i64 g.h], [C.int IntKind.i64 g.d], [C.int IntKind.i64 g.italic], [C.int IntKind.i64 g.attach]] : List (List C))[k]? = some [.int .i64 n] := by
        have e : ([[C.int IntKind.i64 g.w], [C.int IntKind.i64 g.h], [C.int IntKind.i64 g.d], [C.int IntKind.i64 g.italic], [C.int IntKind.i64 g.attach]] : List (List C)) = g.mets.map fun n => [C.int .i64 n] := rfl
        rw [e, List.getElem?_map, List.getElem?_eq_getElem (by rw [hll]; exact hlt), hn]
        rfl
      have hlt' : (k : Int) < 5 := by omega
      repeat (first
       | (with_reducible first | refine AW.seq ?_ | refine AW.block ?_ | refine aThen_n ?_ | refine aBlk_n ?_ | refine AW.ret ?_ | refine aThen_r ?_ | refine aBlk_r ?_ | refine aops_done ?_ | refine AW.skip ?_ | refine AW.exit ?_ | refine aThen_e ?_ | refine aBlk_hit ?_ | refine AW.label ?_ | refine AW.scope ?_ | refine aNg_n ?_ | refine aNg_r ?_ | refine aNg_e ?_)
       | ((with_reducible refine AW.region ?_); with_reducible refine aops_run (by simp [List.replicate_succ, hlt', hrow]; first | exact rfl | exact ⟨rfl, rfl⟩) ?_)
       | ((with_reducible refine AW.draw mixedP ?_ ?_); (focus first | exact .inl rfl | exact .inr (by decide)); with_reducible refine adraw_go (by simp [List.replicate_succ, hlt', hrow]; first | exact rfl | exact ⟨rfl, rfl, rfl⟩) ?_)
       | (with_reducible refine adraw_done (by kernel_rfl) ?_)
       | ((with_reducible refine aBlk_miss ?_ ?_); focus decide)
       | ((with_reducible refine cond_t ?_ ?_); focus (simp [ev, hlt', hrow]; done))
       | ((with_reducible refine cond_f ?_ ?_); focus (simp [ev, hlt', hrow]; done)))
      (with_reducible first | refine aops_c (rwithin_a n (-20000) 20000) Try.func126 (by kernel_rfl) (by kernel_rfl) ?_ ?_ ?_ | refine adraw_c (rwithin_a n (-20000) 20000) Try.func126 (by kernel_rfl) (by kernel_rfl) ?_ ?_ ?_)
      focus (simp [gate]; done)
      focus (simp [pubCall]; done)
      first | (with_reducible refine aops_run (by simp [List.replicate_succ]; first | exact rfl | exact ⟨rfl, rfl⟩) ?_) | (with_reducible refine adraw_go (by simp [List.replicate_succ]; first | exact rfl | exact ⟨rfl, rfl, rfl⟩) ?_)
      cases hb : inB (-20000) 20000 [n] with
      | false =>
        have e : inB (-20000) 20000 g.mets = false := by rw [hI]; simp [inB] at hb ⊢; omega
        repeat (first
         | (with_reducible first | refine AW.seq ?_ | refine AW.block ?_ | refine aThen_n ?_ | refine aBlk_n ?_ | refine AW.ret ?_ | refine aThen_r ?_ | refine aBlk_r ?_ | refine aops_done ?_ | refine AW.skip ?_ | refine AW.exit ?_ | refine aThen_e ?_ | refine aBlk_hit ?_ | refine AW.label ?_ | refine AW.scope ?_ | refine aNg_n ?_ | refine aNg_r ?_ | refine aNg_e ?_)
         | ((with_reducible refine AW.region ?_); with_reducible refine aops_run (by simp [List.replicate_succ, hb]; first | exact rfl | exact ⟨rfl, rfl⟩) ?_)
         | ((with_reducible refine AW.draw mixedP ?_ ?_); (focus first | exact .inl rfl | exact .inr (by decide)); with_reducible refine adraw_go (by simp [List.replicate_succ, hb]; first | exact rfl | exact ⟨rfl, rfl, rfl⟩) ?_)
         | (with_reducible refine adraw_done (by kernel_rfl) ?_)
         | ((with_reducible refine aBlk_miss ?_ ?_); focus decide)
         | ((with_reducible refine cond_t ?_ ?_); focus (simp [ev, hb]; done))
         | ((with_reducible refine cond_f ?_ ?_); focus (simp [ev, hb]; done)))
        simp [aRet, ares, aresL, ares1, V.pub, V.pubs, ldV, Try.results127, e]
      | true =>
        have hw : IntKind.i64.wrap ((k : Int) + 1) = ((k + 1 : Nat) : Int) := by rw [wrap_i64 (by omega) (by omega)]; simp
        repeat (first
         | (with_reducible first | refine AW.seq ?_ | refine AW.block ?_ | refine aThen_n ?_ | refine aBlk_n ?_ | refine AW.ret ?_ | refine aThen_r ?_ | refine aBlk_r ?_ | refine aops_done ?_ | refine AW.skip ?_ | refine AW.exit ?_ | refine aThen_e ?_ | refine aBlk_hit ?_ | refine AW.label ?_ | refine AW.scope ?_ | refine aNg_n ?_ | refine aNg_r ?_ | refine aNg_e ?_)
         | ((with_reducible refine AW.region ?_); with_reducible refine aops_run (by simp [List.replicate_succ, hb, hw]; first | exact rfl | exact ⟨rfl, rfl⟩) ?_)
         | ((with_reducible refine AW.draw mixedP ?_ ?_); (focus first | exact .inl rfl | exact .inr (by decide)); with_reducible refine adraw_go (by simp [List.replicate_succ, hb, hw]; first | exact rfl | exact ⟨rfl, rfl, rfl⟩) ?_)
         | (with_reducible refine adraw_done (by kernel_rfl) ?_)
         | ((with_reducible refine aBlk_miss ?_ ?_); focus decide)
         | ((with_reducible refine cond_t ?_ ?_); focus (simp [ev, hb, hw]; done))
         | ((with_reducible refine cond_f ?_ ?_); focus (simp [ev, hb, hw]; done)))
        refine ⟨⟨k + 1, by omega, by rw [hI]; simp [inB] at hb ⊢; omega⟩, by simp only; omega, ?_⟩
        refine Le.weak (by simp [subT, Glyph.row])
    · have e : inB (-20000) 20000 g.mets = true := by rw [hI, List.drop_of_length_le (by show 5 ≤ k; omega)]; rfl
      have hlt' : ¬ (k : Int) < 5 := by omega
      repeat (first
       | (with_reducible first | refine AW.seq ?_ | refine AW.block ?_ | refine aThen_n ?_ | refine aBlk_n ?_ | refine AW.ret ?_ | refine aThen_r ?_ | refine aBlk_r ?_ | refine aops_done ?_ | refine AW.skip ?_ | refine AW.exit ?_ | refine aThen_e ?_ | refine aBlk_hit ?_ | refine AW.label ?_ | refine AW.scope ?_ | refine aNg_n ?_ | refine aNg_r ?_ | refine aNg_e ?_)
       | ((with_reducible refine AW.region ?_); with_reducible refine aops_run (by simp [List.replicate_succ, hlt']; first | exact rfl | exact ⟨rfl, rfl⟩) ?_)
       | ((with_reducible refine AW.draw mixedP ?_ ?_); (focus first | exact .inl rfl | exact .inr (by decide)); with_reducible refine adraw_go (by simp [List.replicate_succ, hlt']; first | exact rfl | exact ⟨rfl, rfl, rfl⟩) ?_)
       | (with_reducible refine adraw_done (by kernel_rfl) ?_)
       | ((with_reducible refine aBlk_miss ?_ ?_); focus decide)
       | ((with_reducible refine cond_t ?_ ?_); focus (simp [ev, hlt']; done))
       | ((with_reducible refine cond_f ?_ ?_); focus (simp [ev, hlt']; done)))
      simp [aRet, ares, aresL, ares1, V.pub, V.pubs, ldV, Try.results127, e]

/-- 'Scale' of the reference -/
theorem rscale_nn (n p : Int) (h1 : 0 ≤ n) (h2 : n ≤ 1099511627776) (h3 : 0 ≤ p) (h4 : p ≤ 10000) : AC Try.prog 64 [.c (.int .i64 n), .c (.int .i64 p)] (.c (.int .i64 (rnd (n * p) 100))) := by
  have hb := mul_bound n p 1099511627776 10000 (by omega) h2 h3 h4
  have hn : 0 ≤ n * p := Int.mul_nonneg h1 h3
  have hneg : ¬ n < 0 := by omega
  have w1 : IntKind.i64.wrap (2 * n) = 2 * n := wrap_i64 (by omega) (by omega)
  have w2 : IntKind.i64.wrap (2 * n * p) = 2 * n * p := wrap_i64 (by rw [Int.mul_assoc]; omega) (by rw [Int.mul_assoc]; omega)
  have w3 : IntKind.i64.wrap (2 * n * p + 100) = 2 * n * p + 100 := wrap_i64 (by rw [Int.mul_assoc]; omega) (by rw [Int.mul_assoc]; omega)
  have e : rnd (n * p) 100 = (2 * n * p + 100).tdiv 200 := by
    unfold rnd
    rw [if_pos hn, Int.tdiv_eq_ediv_of_nonneg (by rw [Int.mul_assoc]; omega), Int.mul_assoc]
    rfl
  have w4 : IntKind.i64.wrap ((2 * n * p + 100).tdiv 200) = rnd (n * p) 100 := by
    rw [← e]
    have := rnd_bound (n * p) 109951162777600 (by omega) (by omega)
    exact wrap_i64 (by omega) (by omega)
  refine AC.intro Try.func64 rfl ?_
  simp only [Try.ntmps64, List.map_cons, List.map_nil, List.length_cons, List.length_nil, Nat.reduceAdd, Nat.reduceSub, List.replicate_succ, List.replicate_zero, List.cons_append, List.nil_append]
  repeat (first
   | (with_reducible first | refine AW.seq ?_ | refine AW.block ?_ | refine aThen_n ?_ | refine aBlk_n ?_ | refine AW.ret ?_ | refine aThen_r ?_ | refine aBlk_r ?_ | refine aops_done ?_ | refine AW.skip ?_ | refine AW.exit ?_ | refine aThen_e ?_ | refine aBlk_hit ?_ | refine AW.label ?_ | refine AW.scope ?_ | refine aNg_n ?_ | refine aNg_r ?_ | refine aNg_e ?_)
   | ((with_reducible refine AW.region ?_); with_reducible refine aops_run (by simp [List.replicate_succ, hneg, w1, w2, w3, w4]; first | exact rfl | exact ⟨rfl, rfl⟩) ?_)
   | ((with_reducible refine AW.draw mixedP ?_ ?_); (focus first | exact .inl rfl | exact .inr (by decide)); with_reducible refine adraw_go (by simp [List.replicate_succ, hneg, w1, w2, w3, w4]; first | exact rfl | exact ⟨rfl, rfl, rfl⟩) ?_)
   | (with_reducible refine adraw_done (by kernel_rfl) ?_)
   | ((with_reducible refine aBlk_miss ?_ ?_); focus decide)
   | ((with_reducible refine cond_t ?_ ?_); focus (simp [ev, hneg, w1, w2, w3, w4]; done))
   | ((with_reducible refine cond_f ?_ ?_); focus (simp [ev, hneg, w1, w2, w3, w4]; done)))
  simp [aRet, ares, aresL, ares1, V.pub, V.pubs, ldV, Try.results64]
theorem rnd_neg (a : Int) : rnd (-a) 100 = -rnd a 100 := by
  unfold rnd
  split <;> split <;> omega
theorem rscale_a (n p : Int) (h1 : -1099511627776 ≤ n) (h2 : n ≤ 1099511627776) (h3 : 0 ≤ p) (h4 : p ≤ 10000) : AC Try.prog 64 [.c (.int .i64 n), .c (.int .i64 p)] (.c (.int .i64 (rnd (n * p) 100))) := by
  by_cases hneg : n < 0
  · have hb := mul_bound n p 1099511627776 10000 h1 h2 h3 h4
    have w1 : IntKind.i64.wrap (-n) = -n := wrap_i64 (by omega) (by omega)
    have hr := rnd_bound (n * p) 109951162777600 (by omega) (by omega)
    have w2 : IntKind.i64.wrap (rnd (n * p) 100) = rnd (n * p) 100 := wrap_i64 (by omega) (by omega)
    have e : rnd (-n * p) 100 = -rnd (n * p) 100 := by rw [Int.neg_mul, rnd_neg]
    refine AC.intro Try.func64 rfl ?_
    simp only [Try.ntmps64, List.map_cons, List.map_nil, List.length_cons, List.length_nil, Nat.reduceAdd, Nat.reduceSub, List.replicate_succ, List.replicate_zero, List.cons_append, List.nil_append]
    repeat (first
     | (with_reducible first | refine AW.seq ?_ | refine AW.block ?_ | refine aThen_n ?_ | refine aBlk_n ?_ | refine AW.ret ?_ | refine aThen_r ?_ | refine aBlk_r ?_ | refine aops_done ?_ | refine AW.skip ?_ | refine AW.exit ?_ | refine aThen_e ?_ | refine aBlk_hit ?_ | refine AW.label ?_ | refine AW.scope ?_ | refine aNg_n ?_ | refine aNg_r ?_ | refine aNg_e ?_)
     | ((with_reducible refine AW.region ?_); with_reducible refine aops_run (by simp [List.replicate_succ, hneg, w1]; first | exact rfl | exact ⟨rfl, rfl⟩) ?_)
     | ((with_reducible refine AW.draw mixedP ?_ ?_); (focus first | exact .inl rfl | exact .inr (by decide)); with_reducible refine adraw_go (by simp [List.replicate_succ, hneg, w1]; first | exact rfl | exact ⟨rfl, rfl, rfl⟩) ?_)
     | (with_reducible refine adraw_done (by kernel_rfl) ?_)
     | ((with_reducible refine aBlk_miss ?_ ?_); focus decide)
     | ((with_reducible refine cond_t ?_ ?_); focus (simp [ev, hneg, w1]; done))
     | ((with_reducible refine cond_f ?_ ?_); focus (simp [ev, hneg, w1]; done)))
    (with_reducible first | refine aops_c (rscale_nn (-n) p (by omega) (by omega) h3 h4) Try.func64 (by kernel_rfl) (by kernel_rfl) ?_ ?_ ?_ | refine adraw_c (rscale_nn (-n) p (by omega) (by omega) h3 h4) Try.func64 (by kernel_rfl) (by kernel_rfl) ?_ ?_ ?_)
    focus (simp [gate, e, w2]; done)
    focus (simp [pubCall, e, w2]; done)
    first | (with_reducible refine aops_run (by simp [List.replicate_succ, e, w2]; first | exact rfl | exact ⟨rfl, rfl⟩) ?_) | (with_reducible refine adraw_go (by simp [List.replicate_succ, e, w2]; first | exact rfl | exact ⟨rfl, rfl, rfl⟩) ?_)
    repeat (first
     | (with_reducible first | refine AW.seq ?_ | refine AW.block ?_ | refine aThen_n ?_ | refine aBlk_n ?_ | refine AW.ret ?_ | refine aThen_r ?_ | refine aBlk_r ?_ | refine aops_done ?_ | refine AW.skip ?_ | refine AW.exit ?_ | refine aThen_e ?_ | refine aBlk_hit ?_ | refine AW.label ?_ | refine AW.scope ?_ | refine aNg_n ?_ | refine aNg_r ?_ | refine aNg_e ?_)
     | ((with_reducible refine AW.region ?_); with_reducible refine aops_run (by simp [List.replicate_succ]; first | exact rfl | exact ⟨rfl, rfl⟩) ?_)
     | ((with_reducible refine AW.draw mixedP ?_ ?_); (focus first | exact .inl rfl | exact .inr (by decide)); with_reducible refine adraw_go (by simp [List.replicate_succ]; first | exact rfl | exact ⟨rfl, rfl, rfl⟩) ?_)
     | (with_reducible refine adraw_done (by kernel_rfl) ?_)
     | ((with_reducible refine aBlk_miss ?_ ?_); focus decide)
     | ((with_reducible refine cond_t ?_ ?_); focus (simp [ev]; done))
     | ((with_reducible refine cond_f ?_ ?_); focus (simp [ev]; done)))
    simp [aRet, ares, aresL, ares1, V.pub, V.pubs, ldV, Try.results64]
  · exact rscale_nn n p (by omega) h2 h3 h4
end Go.Proofs.Ythbcljjpmdfflaa
