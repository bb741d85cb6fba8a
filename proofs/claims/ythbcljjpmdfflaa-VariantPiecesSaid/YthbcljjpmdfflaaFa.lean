/-
  Layer 1 on the abstract machine.
-/
import Derived.Test.YthbcljjpmdfflaaG4
import Derived.Test.YthbcljjpmdfflaaG1
namespace Go.Proofs.Ythbcljjpmdfflaa
open Go.RowKit
set_option linter.unusedSimpArgs false
set_option linter.unusedVariables false
set_option maxRecDepth 100000

theorem lvalid_a (n : Int) : AC Try.prog 115 [.c (.int .i64 n)] (.c (.bool (lenValid n))) := by
  by_cases h1 : -1073741824 ≤ n
  · refine AC.intro Try.func115 rfl ?_
    simp only [Try.ntmps115, List.map_cons, List.map_nil, List.length_cons, List.length_nil, Nat.reduceAdd, Nat.reduceSub, List.replicate_succ, List.replicate_zero, List.cons_append, List.nil_append]
    repeat (first
     | (with_reducible first | refine AW.seq ?_ | refine AW.block ?_ | refine aThen_n ?_ | refine aBlk_n ?_ | refine AW.ret ?_ | refine aThen_r ?_ | refine aBlk_r ?_ | refine aops_done ?_ | refine AW.skip ?_ | refine AW.exit ?_ | refine aThen_e ?_ | refine aBlk_hit ?_ | refine AW.label ?_ | refine AW.scope ?_ | refine aNg_n ?_ | refine aNg_r ?_ | refine aNg_e ?_)
     | ((with_reducible refine AW.region ?_); with_reducible refine aops_run (by simp [List.replicate_succ, h1]; first | exact rfl | exact ⟨rfl, rfl⟩) ?_)
     | ((with_reducible refine AW.draw mixedP ?_ ?_); (focus first | exact .inl rfl | exact .inr (by decide)); with_reducible refine adraw_go (by simp [List.replicate_succ, h1]; first | exact rfl | exact ⟨rfl, rfl, rfl⟩) ?_)
     | (with_reducible refine adraw_done (by kernel_rfl) ?_)
     | ((with_reducible refine aBlk_miss ?_ ?_); focus decide)
     | ((with_reducible refine cond_t ?_ ?_); focus (simp [ev, h1]; done))
     | ((with_reducible refine cond_f ?_ ?_); focus (simp [ev, h1]; done)))
    simp [aRet, ares, aresL, ares1, V.pub, V.pubs, ldV, Try.results115, lenValid, h1]
  · refine AC.intro Try.func115 rfl ?_
    simp only [Try.ntmps115, List.map_cons, List.map_nil, List.length_cons, List.length_nil, Nat.reduceAdd, Nat.reduceSub, List.replicate_succ, List.replicate_zero, List.cons_append, List.nil_append]
    repeat (first
     | (with_reducible first | refine AW.seq ?_ | refine AW.block ?_ | refine aThen_n ?_ | refine aBlk_n ?_ | refine AW.ret ?_ | refine aThen_r ?_ | refine aBlk_r ?_ | refine aops_done ?_ | refine AW.skip ?_ | refine AW.exit ?_ | refine aThen_e ?_ | refine aBlk_hit ?_ | refine AW.label ?_ | refine AW.scope ?_ | refine aNg_n ?_ | refine aNg_r ?_ | refine aNg_e ?_)
     | ((with_reducible refine AW.region ?_); with_reducible refine aops_run (by simp [List.replicate_succ, h1]; first | exact rfl | exact ⟨rfl, rfl⟩) ?_)
     | ((with_reducible refine AW.draw mixedP ?_ ?_); (focus first | exact .inl rfl | exact .inr (by decide)); with_reducible refine adraw_go (by simp [List.replicate_succ, h1]; first | exact rfl | exact ⟨rfl, rfl, rfl⟩) ?_)
     | (with_reducible refine adraw_done (by kernel_rfl) ?_)
     | ((with_reducible refine aBlk_miss ?_ ?_); focus decide)
     | ((with_reducible refine cond_t ?_ ?_); focus (simp [ev, h1]; done))
     | ((with_reducible refine cond_f ?_ ?_); focus (simp [ev, h1]; done)))
    simp [aRet, ares, aresL, ares1, V.pub, V.pubs, ldV, Try.results115, lenValid, h1]

theorem quotient_a (a b : Int) (ha : -9000000000000000000 ≤ a) (ha' : a ≤ 9000000000000000000) (hb : b = 100 ∨ b = 2) : AC Try.prog 116 [.c (.int .i64 a), .c (.int .i64 b)] (.c (.int .i64 (quot a b))) := by
  have h1 := Int.mul_tdiv_add_tmod a b
  have hm1 : -b < a.tmod b ∧ a.tmod b < b := by
    rcases hb with rfl | rfl
    · exact ⟨by have := Int.lt_tmod_of_pos a (b := 100) (by omega); omega, Int.tmod_lt_of_pos a (by omega)⟩
    · exact ⟨by have := Int.lt_tmod_of_pos a (b := 2) (by omega); omega, Int.tmod_lt_of_pos a (by omega)⟩
  have hb0 : ¬ b < 0 := by omega
  have hb1 : ¬ b = 0 := by omega
  obtain ⟨q, hq⟩ : ∃ q, a.tdiv b = q := ⟨_, rfl⟩
  obtain ⟨r, hr⟩ : ∃ r, a.tmod b = r := ⟨_, rfl⟩
  have hQ : quot a b = if 0 ≤ r ∧ b - r ≤ r then q + 1 else if r < 0 ∧ b + r ≤ -r then q - 1 else q := by unfold quot; rw [hq, hr]
  rw [hq, hr] at h1
  rw [hr] at hm1
  have hqb : -9000000000000000001 ≤ q ∧ q ≤ 9000000000000000001 := by rcases hb with rfl | rfl <;> omega
  have w1 : IntKind.i64.wrap q = q := wrap_i64 (by omega) (by omega)
  have w2 : IntKind.i64.wrap r = r := wrap_i64 (by omega) (by omega)
  have w3 : IntKind.i64.wrap (b - r) = b - r := wrap_i64 (by omega) (by omega)
  have w4 : IntKind.i64.wrap (b + r) = b + r := wrap_i64 (by omega) (by omega)
  have w5 : IntKind.i64.wrap (-r) = -r := wrap_i64 (by omega) (by omega)
  have w6 : IntKind.i64.wrap (q + 1) = q + 1 := wrap_i64 (by omega) (by omega)
  have w7 : IntKind.i64.wrap (q - 1) = q - 1 := wrap_i64 (by omega) (by omega)
  rw [hQ]
  clear hQ h1
  by_cases c1 : 0 ≤ r
  · by_cases c2 : b - r ≤ r
    · refine AC.intro Try.func116 rfl ?_
      simp only [Try.ntmps116, List.map_cons, List.map_nil, List.length_cons, List.length_nil, Nat.reduceAdd, Nat.reduceSub, List.replicate_succ, List.replicate_zero, List.cons_append, List.nil_append]
      repeat (first
       | (with_reducible first | refine AW.seq ?_ | refine AW.block ?_ | refine aThen_n ?_ | refine aBlk_n ?_ | refine AW.ret ?_ | refine aThen_r ?_ | refine aBlk_r ?_ | refine aops_done ?_ | refine AW.skip ?_ | refine AW.exit ?_ | refine aThen_e ?_ | refine aBlk_hit ?_ | refine AW.label ?_ | refine AW.scope ?_ | refine aNg_n ?_ | refine aNg_r ?_ | refine aNg_e ?_)
       | ((with_reducible refine AW.region ?_); with_reducible refine aops_run (by simp [List.replicate_succ, hb0, hb1, hq, hr, w1, w2, w3, w6, c1, c2]; first | exact rfl | exact ⟨rfl, rfl⟩) ?_)
       | ((with_reducible refine AW.draw mixedP ?_ ?_); (focus first | exact .inl rfl | exact .inr (by decide)); with_reducible refine adraw_go (by simp [List.replicate_succ, hb0, hb1, hq, hr, w1, w2, w3, w6, c1, c2]; first | exact rfl | exact ⟨rfl, rfl, rfl⟩) ?_)
       | (with_reducible refine adraw_done (by kernel_rfl) ?_)
       | ((with_reducible refine aBlk_miss ?_ ?_); focus decide)
       | ((with_reducible refine cond_t ?_ ?_); focus (simp [ev, hb0, hb1, hq, hr, w1, w2, w3, w6, c1, c2]; done))
       | ((with_reducible refine cond_f ?_ ?_); focus (simp [ev, hb0, hb1, hq, hr, w1, w2, w3, w6, c1, c2]; done)))
      simp [aRet, ares, aresL, ares1, V.pub, V.pubs, ldV, Try.results116, c1, c2]
    · have c3 : ¬ r < 0 := by omega
      refine AC.intro Try.func116 rfl ?_
      simp only [Try.ntmps116, List.map_cons, List.map_nil, List.length_cons, List.length_nil, Nat.reduceAdd, Nat.reduceSub, List.replicate_succ, List.replicate_zero, List.cons_append, List.nil_append]
      repeat (first
       | (with_reducible first | refine AW.seq ?_ | refine AW.block ?_ | refine aThen_n ?_ | refine aBlk_n ?_ | refine AW.ret ?_ | refine aThen_r ?_ | refine aBlk_r ?_ | refine aops_done ?_ | refine AW.skip ?_ | refine AW.exit ?_ | refine aThen_e ?_ | refine aBlk_hit ?_ | refine AW.label ?_ | refine AW.scope ?_ | refine aNg_n ?_ | refine aNg_r ?_ | refine aNg_e ?_)
       | ((with_reducible refine AW.region ?_); with_reducible refine aops_run (by simp [List.replicate_succ, hb0, hb1, hq, hr, w1, w2, w3, w6, c1, c2, c3]; first | exact rfl | exact ⟨rfl, rfl⟩) ?_)
       | ((with_reducible refine AW.draw mixedP ?_ ?_); (focus first | exact .inl rfl | exact .inr (by decide)); with_reducible refine adraw_go (by simp [List.replicate_succ, hb0, hb1, hq, hr, w1, w2, w3, w6, c1, c2, c3]; first | exact rfl | exact ⟨rfl, rfl, rfl⟩) ?_)
       | (with_reducible refine adraw_done (by kernel_rfl) ?_)
       | ((with_reducible refine aBlk_miss ?_ ?_); focus decide)
       | ((with_reducible refine cond_t ?_ ?_); focus (simp [ev, hb0, hb1, hq, hr, w1, w2, w3, w6, c1, c2, c3]; done))
       | ((with_reducible refine cond_f ?_ ?_); focus (simp [ev, hb0, hb1, hq, hr, w1, w2, w3, w6, c1, c2, c3]; done)))
      simp [aRet, ares, aresL, ares1, V.pub, V.pubs, ldV, Try.results116, c1, c2, c3]
  · have c3 : r < 0 := by omega
    by_cases c2 : b + r ≤ -r
    · refine AC.intro Try.func116 rfl ?_
      simp only [Try.ntmps116, List.map_cons, List.map_nil, List.length_cons, List.length_nil, Nat.reduceAdd, Nat.reduceSub, List.replicate_succ, List.replicate_zero, List.cons_append, List.nil_append]
      repeat (first
       | (with_reducible first | refine AW.seq ?_ | refine AW.block ?_ | refine aThen_n ?_ | refine aBlk_n ?_ | refine AW.ret ?_ | refine aThen_r ?_ | refine aBlk_r ?_ | refine aops_done ?_ | refine AW.skip ?_ | refine AW.exit ?_ | refine aThen_e ?_ | refine aBlk_hit ?_ | refine AW.label ?_ | refine AW.scope ?_ | refine aNg_n ?_ | refine aNg_r ?_ | refine aNg_e ?_)
       | ((with_reducible refine AW.region ?_); with_reducible refine aops_run (by simp [List.replicate_succ, hb0, hb1, hq, hr, w1, w2, w4, w5, w7, c1, c2, c3]; first | exact rfl | exact ⟨rfl, rfl⟩) ?_)
       | ((with_reducible refine AW.draw mixedP ?_ ?_); (focus first | exact .inl rfl | exact .inr (by decide)); with_reducible refine adraw_go (by simp [List.replicate_succ, hb0, hb1, hq, hr, w1, w2, w4, w5, w7, c1, c2, c3]; first | exact rfl | exact ⟨rfl, rfl, rfl⟩) ?_)
       | (with_reducible refine adraw_done (by kernel_rfl) ?_)
       | ((with_reducible refine aBlk_miss ?_ ?_); focus decide)
       | ((with_reducible refine cond_t ?_ ?_); focus (simp [ev, hb0, hb1, hq, hr, w1, w2, w4, w5, w7, c1, c2, c3]; done))
       | ((with_reducible refine cond_f ?_ ?_); focus (simp [ev, hb0, hb1, hq, hr, w1, w2, w4, w5, w7, c1, c2, c3]; done)))
      simp [aRet, ares, aresL, ares1, V.pub, V.pubs, ldV, Try.results116, c1, c2, c3]
    · refine AC.intro Try.func116 rfl ?_
      simp only [Try.ntmps116, List.map_cons, List.map_nil, List.length_cons, List.length_nil, Nat.reduceAdd, Nat.reduceSub, List.replicate_succ, List.replicate_zero, List.cons_append, List.nil_append]
      repeat (first
       | (with_reducible first | refine AW.seq ?_ | refine AW.block ?_ | refine aThen_n ?_ | refine aBlk_n ?_ | refine AW.ret ?_ | refine aThen_r ?_ | refine aBlk_r ?_ | refine aops_done ?_ | refine AW.skip ?_ | refine AW.exit ?_ | refine aThen_e ?_ | refine aBlk_hit ?_ | refine AW.label ?_ | refine AW.scope ?_ | refine aNg_n ?_ | refine aNg_r ?_ | refine aNg_e ?_)
       | ((with_reducible refine AW.region ?_); with_reducible refine aops_run (by simp [List.replicate_succ, hb0, hb1, hq, hr, w1, w2, w4, w5, w7, c1, c2, c3]; first | exact rfl | exact ⟨rfl, rfl⟩) ?_)
       | ((with_reducible refine AW.draw mixedP ?_ ?_); (focus first | exact .inl rfl | exact .inr (by decide)); with_reducible refine adraw_go (by simp [List.replicate_succ, hb0, hb1, hq, hr, w1, w2, w4, w5, w7, c1, c2, c3]; first | exact rfl | exact ⟨rfl, rfl, rfl⟩) ?_)
       | (with_reducible refine adraw_done (by kernel_rfl) ?_)
       | ((with_reducible refine aBlk_miss ?_ ?_); focus decide)
       | ((with_reducible refine cond_t ?_ ?_); focus (simp [ev, hb0, hb1, hq, hr, w1, w2, w4, w5, w7, c1, c2, c3]; done))
       | ((with_reducible refine cond_f ?_ ?_); focus (simp [ev, hb0, hb1, hq, hr, w1, w2, w4, w5, w7, c1, c2, c3]; done)))
      simp [aRet, ares, aresL, ares1, V.pub, V.pubs, ldV, Try.results116, c1, c2, c3]

theorem scale_a (n p : Int) : AC Try.prog 74 [.c (.int .i64 n), .c (.int .i64 p)] (.c (.int .i64 (scale n p))) := by
  cases hv : lenValid n with
  | false =>
    have hs : scale n p = 0 := by simp [scale, hv]
    refine AC.intro Try.func74 rfl ?_
    simp only [Try.ntmps74, List.map_cons, List.map_nil, List.length_cons, List.length_nil, Nat.reduceAdd, Nat.reduceSub, List.replicate_succ, List.replicate_zero, List.cons_append, List.nil_append]
    repeat (first
     | (with_reducible first | refine AW.seq ?_ | refine AW.block ?_ | refine aThen_n ?_ | refine aBlk_n ?_ | refine AW.ret ?_ | refine aThen_r ?_ | refine aBlk_r ?_ | refine aops_done ?_ | refine AW.skip ?_ | refine AW.exit ?_ | refine aThen_e ?_ | refine aBlk_hit ?_ | refine AW.label ?_ | refine AW.scope ?_ | refine aNg_n ?_ | refine aNg_r ?_ | refine aNg_e ?_)
     | ((with_reducible refine AW.region ?_); with_reducible refine aops_run (by simp [List.replicate_succ]; first | exact rfl | exact ⟨rfl, rfl⟩) ?_)
     | ((with_reducible refine AW.draw mixedP ?_ ?_); (focus first | exact .inl rfl | exact .inr (by decide)); with_reducible refine adraw_go (by simp [List.replicate_succ]; first | exact rfl | exact ⟨rfl, rfl, rfl⟩) ?_)
     | (with_reducible refine adraw_done (by kernel_rfl) ?_)
     | ((with_reducible refine aBlk_miss ?_ ?_); focus decide)
     | ((with_reducible refine cond_t ?_ ?_); focus (simp [ev]; done))
     | ((with_reducible refine cond_f ?_ ?_); focus (simp [ev]; done)))
    (with_reducible first | refine aops_c (lvalid_a n) Try.func115 (by kernel_rfl) (by kernel_rfl) ?_ ?_ ?_ | refine adraw_c (lvalid_a n) Try.func115 (by kernel_rfl) (by kernel_rfl) ?_ ?_ ?_)
    focus (simp [gate, hv]; done)
    focus (simp [pubCall, hv]; done)
    first | (with_reducible refine aops_run (by simp [List.replicate_succ, hv]; first | exact rfl | exact ⟨rfl, rfl⟩) ?_) | (with_reducible refine adraw_go (by simp [List.replicate_succ, hv]; first | exact rfl | exact ⟨rfl, rfl, rfl⟩) ?_)
    repeat (first
     | (with_reducible first | refine AW.seq ?_ | refine AW.block ?_ | refine aThen_n ?_ | refine aBlk_n ?_ | refine AW.ret ?_ | refine aThen_r ?_ | refine aBlk_r ?_ | refine aops_done ?_ | refine AW.skip ?_ | refine AW.exit ?_ | refine aThen_e ?_ | refine aBlk_hit ?_ | refine AW.label ?_ | refine AW.scope ?_ | refine aNg_n ?_ | refine aNg_r ?_ | refine aNg_e ?_)
     | ((with_reducible refine AW.region ?_); with_reducible refine aops_run (by simp [List.replicate_succ, hv]; first | exact rfl | exact ⟨rfl, rfl⟩) ?_)
     | ((with_reducible refine AW.draw mixedP ?_ ?_); (focus first | exact .inl rfl | exact .inr (by decide)); with_reducible refine adraw_go (by simp [List.replicate_succ, hv]; first | exact rfl | exact ⟨rfl, rfl, rfl⟩) ?_)
     | (with_reducible refine adraw_done (by kernel_rfl) ?_)
     | ((with_reducible refine aBlk_miss ?_ ?_); focus decide)
     | ((with_reducible refine cond_t ?_ ?_); focus (simp [ev, hv]; done))
     | ((with_reducible refine cond_f ?_ ?_); focus (simp [ev, hv]; done)))
    simp [aRet, ares, aresL, ares1, V.pub, V.pubs, ldV, Try.results74, hs]
  | true =>
    have hv' := hv
    simp [lenValid] at hv'
    by_cases h1 : p < 0
    · have hs : scale n p = 0 := by unfold scale; rw [if_neg]; omega
      refine AC.intro Try.func74 rfl ?_
      simp only [Try.ntmps74, List.map_cons, List.map_nil, List.length_cons, List.length_nil, Nat.reduceAdd, Nat.reduceSub, List.replicate_succ, List.replicate_zero, List.cons_append, List.nil_append]
      repeat (first
       | (with_reducible first | refine AW.seq ?_ | refine AW.block ?_ | refine aThen_n ?_ | refine aBlk_n ?_ | refine AW.ret ?_ | refine aThen_r ?_ | refine aBlk_r ?_ | refine aops_done ?_ | refine AW.skip ?_ | refine AW.exit ?_ | refine aThen_e ?_ | refine aBlk_hit ?_ | refine AW.label ?_ | refine AW.scope ?_ | refine aNg_n ?_ | refine aNg_r ?_ | refine aNg_e ?_)
       | ((with_reducible refine AW.region ?_); with_reducible refine aops_run (by simp [List.replicate_succ]; first | exact rfl | exact ⟨rfl, rfl⟩) ?_)
       | ((with_reducible refine AW.draw mixedP ?_ ?_); (focus first | exact .inl rfl | exact .inr (by decide)); with_reducible refine adraw_go (by simp [List.replicate_succ]; first | exact rfl | exact ⟨rfl, rfl, rfl⟩) ?_)
       | (with_reducible refine adraw_done (by kernel_rfl) ?_)
       | ((with_reducible refine aBlk_miss ?_ ?_); focus decide)
       | ((with_reducible refine cond_t ?_ ?_); focus (simp [ev]; done))
       | ((with_reducible refine cond_f ?_ ?_); focus (simp [ev]; done)))
      (with_reducible first | refine aops_c (lvalid_a n) Try.func115 (by kernel_rfl) (by kernel_rfl) ?_ ?_ ?_ | refine adraw_c (lvalid_a n) Try.func115 (by kernel_rfl) (by kernel_rfl) ?_ ?_ ?_)
      focus (simp [gate, hv, h1]; done)
      focus (simp [pubCall, hv, h1]; done)
      first | (with_reducible refine aops_run (by simp [List.replicate_succ, hv, h1]; first | exact rfl | exact ⟨rfl, rfl⟩) ?_) | (with_reducible refine adraw_go (by simp [List.replicate_succ, hv, h1]; first | exact rfl | exact ⟨rfl, rfl, rfl⟩) ?_)
      repeat (first
       | (with_reducible first | refine AW.seq ?_ | refine AW.block ?_ | refine aThen_n ?_ | refine aBlk_n ?_ | refine AW.ret ?_ | refine aThen_r ?_ | refine aBlk_r ?_ | refine aops_done ?_ | refine AW.skip ?_ | refine AW.exit ?_ | refine aThen_e ?_ | refine aBlk_hit ?_ | refine AW.label ?_ | refine AW.scope ?_ | refine aNg_n ?_ | refine aNg_r ?_ | refine aNg_e ?_)
       | ((with_reducible refine AW.region ?_); with_reducible refine aops_run (by simp [List.replicate_succ, hv]; first | exact rfl | exact ⟨rfl, rfl⟩) ?_)
       | ((with_reducible refine AW.draw mixedP ?_ ?_); (focus first | exact .inl rfl | exact .inr (by decide)); with_reducible refine adraw_go (by simp [List.replicate_succ, hv]; first | exact rfl | exact ⟨rfl, rfl, rfl⟩) ?_)
       | (with_reducible refine adraw_done (by kernel_rfl) ?_)
       | ((with_reducible refine aBlk_miss ?_ ?_); focus decide)
       | ((with_reducible refine cond_t ?_ ?_); focus (simp [ev, hv]; done))
       | ((with_reducible refine cond_f ?_ ?_); focus (simp [ev, hv]; done)))
      simp [aRet, ares, aresL, ares1, V.pub, V.pubs, ldV, Try.results74, hs]
    · by_cases h2 : 10000 < p
      · have hs : scale n p = 0 := by unfold scale; rw [if_neg]; omega
        refine AC.intro Try.func74 rfl ?_
        simp only [Try.ntmps74, List.map_cons, List.map_nil, List.length_cons, List.length_nil, Nat.reduceAdd, Nat.reduceSub, List.replicate_succ, List.replicate_zero, List.cons_append, List.nil_append]
        repeat (first
         | (with_reducible first | refine AW.seq ?_ | refine AW.block ?_ | refine aThen_n ?_ | refine aBlk_n ?_ | refine AW.ret ?_ | refine aThen_r ?_ | refine aBlk_r ?_ | refine aops_done ?_ | refine AW.skip ?_ | refine AW.exit ?_ | refine aThen_e ?_ | refine aBlk_hit ?_ | refine AW.label ?_ | refine AW.scope ?_ | refine aNg_n ?_ | refine aNg_r ?_ | refine aNg_e ?_)
         | ((with_reducible refine AW.region ?_); with_reducible refine aops_run (by simp [List.replicate_succ]; first | exact rfl | exact ⟨rfl, rfl⟩) ?_)
         | ((with_reducible refine AW.draw mixedP ?_ ?_); (focus first | exact .inl rfl | exact .inr (by decide)); with_reducible refine adraw_go (by simp [List.replicate_succ]; first | exact rfl | exact ⟨rfl, rfl, rfl⟩) ?_)
         | (with_reducible refine adraw_done (by kernel_rfl) ?_)
         | ((with_reducible refine aBlk_miss ?_ ?_); focus decide)
         | ((with_reducible refine cond_t ?_ ?_); focus (simp [ev]; done))
         | ((with_reducible refine cond_f ?_ ?_); focus (simp [ev]; done)))
        (with_reducible first | refine aops_c (lvalid_a n) Try.func115 (by kernel_rfl) (by kernel_rfl) ?_ ?_ ?_ | refine adraw_c (lvalid_a n) Try.func115 (by kernel_rfl) (by kernel_rfl) ?_ ?_ ?_)
        focus (simp [gate, hv, h1, h2]; done)
        focus (simp [pubCall, hv, h1, h2]; done)
        first | (with_reducible refine aops_run (by simp [List.replicate_succ, hv, h1, h2]; first | exact rfl | exact ⟨rfl, rfl⟩) ?_) | (with_reducible refine adraw_go (by simp [List.replicate_succ, hv, h1, h2]; first | exact rfl | exact ⟨rfl, rfl, rfl⟩) ?_)
        repeat (first
         | (with_reducible first | refine AW.seq ?_ | refine AW.block ?_ | refine aThen_n ?_ | refine aBlk_n ?_ | refine AW.ret ?_ | refine aThen_r ?_ | refine aBlk_r ?_ | refine aops_done ?_ | refine AW.skip ?_ | refine AW.exit ?_ | refine aThen_e ?_ | refine aBlk_hit ?_ | refine AW.label ?_ | refine AW.scope ?_ | refine aNg_n ?_ | refine aNg_r ?_ | refine aNg_e ?_)
         | ((with_reducible refine AW.region ?_); with_reducible refine aops_run (by simp [List.replicate_succ, hv]; first | exact rfl | exact ⟨rfl, rfl⟩) ?_)
         | ((with_reducible refine AW.draw mixedP ?_ ?_); (focus first | exact .inl rfl | exact .inr (by decide)); with_reducible refine adraw_go (by simp [List.replicate_succ, hv]; first | exact rfl | exact ⟨rfl, rfl, rfl⟩) ?_)
         | (with_reducible refine adraw_done (by kernel_rfl) ?_)
         | ((with_reducible refine aBlk_miss ?_ ?_); focus decide)
         | ((with_reducible refine cond_t ?_ ?_); focus (simp [ev, hv]; done))
         | ((with_reducible refine cond_f ?_ ?_); focus (simp [ev, hv]; done)))
        simp [aRet, ares, aresL, ares1, V.pub, V.pubs, ldV, Try.results74, hs]
      · have hs : scale n p = quot (n * p) 100 := by rw [quot_100]; unfold scale; rw [if_pos ⟨hv, by omega, by omega⟩]
        have hb := mul_bound n p 1073741824 10000 (by omega) (by omega) (by omega) (by omega)
        have hw : IntKind.i64.wrap (n * p) = n * p := wrap_i64 (by omega) (by omega)
        refine AC.intro Try.func74 rfl ?_
        simp only [Try.ntmps74, List.map_cons, List.map_nil, List.length_cons, List.length_nil, Nat.reduceAdd, Nat.reduceSub, List.replicate_succ, List.replicate_zero, List.cons_append, List.nil_append]
        repeat (first
         | (with_reducible first | refine AW.seq ?_ | refine AW.block ?_ | refine aThen_n ?_ | refine aBlk_n ?_ | refine AW.ret ?_ | refine aThen_r ?_ | refine aBlk_r ?_ | refine aops_done ?_ | refine AW.skip ?_ | refine AW.exit ?_ | refine aThen_e ?_ | refine aBlk_hit ?_ | refine AW.label ?_ | refine AW.scope ?_ | refine aNg_n ?_ | refine aNg_r ?_ | refine aNg_e ?_)
         | ((with_reducible refine AW.region ?_); with_reducible refine aops_run (by simp [List.replicate_succ]; first | exact rfl | exact ⟨rfl, rfl⟩) ?_)
         | ((with_reducible refine AW.draw mixedP ?_ ?_); (focus first | exact .inl rfl | exact .inr (by decide)); with_reducible refine adraw_go (by simp [List.replicate_succ]; first | exact rfl | exact ⟨rfl, rfl, rfl⟩) ?_)
         | (with_reducible refine adraw_done (by kernel_rfl) ?_)
         | ((with_reducible refine aBlk_miss ?_ ?_); focus decide)
         | ((with_reducible refine cond_t ?_ ?_); focus (simp [ev]; done))
         | ((with_reducible refine cond_f ?_ ?_); focus (simp [ev]; done)))
        (with_reducible first | refine aops_c (lvalid_a n) Try.func115 (by kernel_rfl) (by kernel_rfl) ?_ ?_ ?_ | refine adraw_c (lvalid_a n) Try.func115 (by kernel_rfl) (by kernel_rfl) ?_ ?_ ?_)
        focus (simp [gate, hv, h1, h2]; done)
        focus (simp [pubCall, hv, h1, h2]; done)
        first | (with_reducible refine aops_run (by simp [List.replicate_succ, hv, h1, h2]; first | exact rfl | exact ⟨rfl, rfl⟩) ?_) | (with_reducible refine adraw_go (by simp [List.replicate_succ, hv, h1, h2]; first | exact rfl | exact ⟨rfl, rfl, rfl⟩) ?_)
        repeat (first
         | (with_reducible first | refine AW.seq ?_ | refine AW.block ?_ | refine aThen_n ?_ | refine aBlk_n ?_ | refine AW.ret ?_ | refine aThen_r ?_ | refine aBlk_r ?_ | refine aops_done ?_ | refine AW.skip ?_ | refine AW.exit ?_ | refine aThen_e ?_ | refine aBlk_hit ?_ | refine AW.label ?_ | refine AW.scope ?_ | refine aNg_n ?_ | refine aNg_r ?_ | refine aNg_e ?_)
         | ((with_reducible refine AW.region ?_); with_reducible refine aops_run (by simp [List.replicate_succ, hv, hw]; first | exact rfl | exact ⟨rfl, rfl⟩) ?_)
         | ((with_reducible refine AW.draw mixedP ?_ ?_); (focus first | exact .inl rfl | exact .inr (by decide)); with_reducible refine adraw_go (by simp [List.replicate_succ, hv, hw]; first | exact rfl | exact ⟨rfl, rfl, rfl⟩) ?_)
         | (with_reducible refine adraw_done (by kernel_rfl) ?_)
         | ((with_reducible refine aBlk_miss ?_ ?_); focus decide)
         | ((with_reducible refine cond_t ?_ ?_); focus (simp [ev, hv, hw]; done))
         | ((with_reducible refine cond_f ?_ ?_); focus (simp [ev, hv, hw]; done)))
        (with_reducible first | refine aops_c (quotient_a (n * p) 100 (by omega) (by omega) (.inl rfl)) Try.func116 (by kernel_rfl) (by kernel_rfl) ?_ ?_ ?_ | refine adraw_c (quotient_a (n * p) 100 (by omega) (by omega) (.inl rfl)) Try.func116 (by kernel_rfl) (by kernel_rfl) ?_ ?_ ?_)
        focus (simp [gate]; done)
        focus (simp [pubCall]; done)
        first | (with_reducible refine aops_run (by simp [List.replicate_succ]; first | exact rfl | exact ⟨rfl, rfl⟩) ?_) | (with_reducible refine adraw_go (by simp [List.replicate_succ]; first | exact rfl | exact ⟨rfl, rfl, rfl⟩) ?_)
        repeat (first
         | (with_reducible first | refine AW.seq ?_ | refine AW.block ?_ | refine aThen_n ?_ | refine aBlk_n ?_ | refine AW.ret ?_ | refine aThen_r ?_ | refine aBlk_r ?_ | refine aops_done ?_ | refine AW.skip ?_ | refine AW.exit ?_ | refine aThen_e ?_ | refine aBlk_hit ?_ | refine AW.label ?_ | refine AW.scope ?_ | refine aNg_n ?_ | refine aNg_r ?_ | refine aNg_e ?_)
         | ((with_reducible refine AW.region ?_); with_reducible refine aops_run (by simp [List.replicate_succ]; first | exact rfl | exact ⟨rfl, rfl⟩) ?_)
         | ((with_reducible refine AW.draw mixedP ?_ ?_); (focus first | exact .inl rfl | exact .inr (by decide)); with_reducible refine adraw_go (by simp [List.replicate_succ]; first | exact rfl | exact ⟨rfl, rfl, rfl⟩) ?_)
         | (with_reducible refine adraw_done (by kernel_rfl) ?_)
         | ((with_reducible refine aBlk_miss ?_ ?_); focus decide)
         | ((with_reducible refine cond_t ?_ ?_); focus (simp [ev]; done))
         | ((with_reducible refine cond_f ?_ ?_); focus (simp [ev]; done)))
        simp [aRet, ares, aresL, ares1, V.pub, V.pubs, ldV, Try.results74, hs]
end Go.Proofs.Ythbcljjpmdfflaa
