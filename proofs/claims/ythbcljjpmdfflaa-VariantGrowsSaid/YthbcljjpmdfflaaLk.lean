/-
  Layer 6's laws: 'small'; Height as the laws use it; choices.
-/
import Derived.Test.YthbcljjpmdfflaaLc
namespace Go.Proofs.Ythbcljjpmdfflaa
open Go.RowKit
set_option linter.unusedSimpArgs false
set_option linter.unusedVariables false
set_option maxRecDepth 100000

theorem vHeight_f (f : Font) (name : ByteArray) (c : Choice) (p : Int) (hf : f.Fit) : AC Try.prog 27 [.agg f.vs, .c (.str name), choiceV c, .c (.int .i64 p)] (.tup [.c (.int .i64 (if checkR f p ≠ 0 then 0 else if isR f name c = false then 0 else heightI f name c p)), errV (if checkR f p ≠ 0 then checkR f p else if isR f name c = false then 8 else 0)]) := by
  have h := vHeight_w vasm_a f name c p hf
  rw [boxR_wrap, boxR_err] at h
  exact h
theorem vHeight_t {f : Font} {name : ByteArray} {c : Choice} {p : Int} (hf : f.Fit) (hc : checkR f p = 0) (hi : isR f name c = true) : AC Try.prog 27 [.agg f.vs, .c (.str name), .agg [.c (.str c.glyph), .c (.int .i64 c.rep)], .c (.int .i64 p)] (.tup [.c (.int .i64 (heightI f name c p)), .c (.int .i64 0)]) := by
  have h := vHeight_f f name c p hf
  rw [if_neg (by simp [hc]), if_neg (by simp [hi]), if_neg (by simp [hc]), if_neg (by simp [hi])] at h
  exact h
theorem vHeight_n {f : Font} {name : ByteArray} {c : Choice} {p : Int} (hf : f.Fit) (hc : checkR f p = 0) (hi : isR f name c = false) : AC Try.prog 27 [.agg f.vs, .c (.str name), .agg [.c (.str c.glyph), .c (.int .i64 c.rep)], .c (.int .i64 p)] (.tup [.c (.int .i64 0), .c (.int .i64 8)]) := by
  have h := vHeight_f f name c p hf
  rw [if_neg (by simp [hc]), if_pos hi, if_neg (by simp [hc]), if_pos hi] at h
  exact h

def smallB (f : Font) (n p : Int) : Bool := fewB f && (f.valid && (decide (1 ≤ p) && (decide (p ≤ 100) && decide (n ≤ 3000))))
theorem small_a (f : Font) (n p : Int) (hf : f.Fit) : AC Try.prog 32 [.agg f.vs, .agg [.c (.int .i64 n), .c (.int .i64 p)]] (.c (.bool (smallB f n p))) := by
  have hfew := few_a f hf.gl
  have hval := rvalid_a f hf
  unfold smallB
  cases hw : fewB f with
  | false =>
    rw [hw] at hfew
    refine AC.intro Try.func32 rfl ?_
    simp only [Try.ntmps32, List.map_cons, List.map_nil, List.length_cons, List.length_nil, Nat.reduceAdd, Nat.reduceSub, List.replicate_succ, List.replicate_zero, List.cons_append, List.nil_append]
    repeat (first
     | (with_reducible first | refine AW.seq ?_ | refine AW.block ?_ | refine aThen_n ?_ | refine aBlk_n ?_ | refine AW.ret ?_ | refine aThen_r ?_ | refine aBlk_r ?_ | refine aops_done ?_ | refine AW.skip ?_ | refine AW.exit ?_ | refine aThen_e ?_ | refine aBlk_hit ?_ | refine AW.label ?_ | refine AW.scope ?_ | refine aNg_n ?_ | refine aNg_r ?_ | refine aNg_e ?_)
     | ((with_reducible refine AW.region ?_); with_reducible refine aops_run (by simp [List.replicate_succ]; first | exact rfl | exact ⟨rfl, rfl⟩) ?_)
     | ((with_reducible refine AW.draw mixedP ?_ ?_); (focus first | exact .inl rfl | exact .inr (by decide)); with_reducible refine adraw_go (by simp [List.replicate_succ]; first | exact rfl | exact ⟨rfl, rfl, rfl⟩) ?_)
     | (with_reducible refine adraw_done (by kernel_rfl) ?_)
     | ((with_reducible refine aBlk_miss ?_ ?_); focus decide)
     | ((with_reducible refine cond_t ?_ ?_); focus (simp [ev]; done))
     | ((with_reducible refine cond_f ?_ ?_); focus (simp [ev]; done)))
    (with_reducible first | refine aops_c (hfew) Try.func22 (by kernel_rfl) (by kernel_rfl) ?_ ?_ ?_ | refine adraw_c (hfew) Try.func22 (by kernel_rfl) (by kernel_rfl) ?_ ?_ ?_)
    focus (simp [gate]; done)
    focus (simp [pubCall]; done)
    first | (with_reducible refine aops_run (by simp [List.replicate_succ]; first | exact rfl | exact ⟨rfl, rfl⟩) ?_) | (with_reducible refine adraw_go (by simp [List.replicate_succ]; first | exact rfl | exact ⟨rfl, rfl, rfl⟩) ?_)
    repeat (first
     | (with_reducible first | refine AW.seq ?_ | refine AW.block ?_ | refine aThen_n ?_ | refine aBlk_n ?_ | refine AW.ret ?_ | refine aThen_r ?_ | refine aBlk_r ?_ | refine aops_done ?_ | refine AW.skip ?_ | refine AW.exit ?_ | refine aThen_e ?_ | refine aBlk_hit ?_ | refine AW.label ?_ | refine AW.scope ?_ | refine aNg_n ?_ | refine aNg_r ?_ | refine aNg_e ?_)
     | ((with_reducible refine AW.region ?_); with_reducible refine aops_run (by simp [List.replicate_succ]; first | exact rfl | exact ⟨rfl, rfl⟩) ?_)
     | ((with_reducible refine AW.draw mixedP ?_ ?_); (focus first | exact .inl rfl | exact .inr (by decide)); with_reducible refine adraw_go (by simp [List.replicate_succ]; first | exact rfl | exact ⟨rfl, rfl, rfl⟩) ?_)
     | (with_reducible refine adraw_done (by kernel_rfl) ?_)
     | ((with_reducible refine aBlk_miss ?_ ?_); focus decide)
     | ((with_reducible refine cond_t ?_ ?_); focus (simp [ev]; done))
     | ((with_reducible refine cond_f ?_ ?_); focus (simp [ev]; done)))
    simp [aRet, ares, aresL, ares1, V.pub, V.pubs, ldV, Try.results32]
  | true =>
    rw [hw] at hfew
    cases hv : f.valid with
    | false =>
      rw [hv] at hval
      refine AC.intro Try.func32 rfl ?_
      simp only [Try.ntmps32, List.map_cons, List.map_nil, List.length_cons, List.length_nil, Nat.reduceAdd, Nat.reduceSub, List.replicate_succ, List.replicate_zero, List.cons_append, List.nil_append]
      repeat (first
       | (with_reducible first | refine AW.seq ?_ | refine AW.block ?_ | refine aThen_n ?_ | refine aBlk_n ?_ | refine AW.ret ?_ | refine aThen_r ?_ | refine aBlk_r ?_ | refine aops_done ?_ | refine AW.skip ?_ | refine AW.exit ?_ | refine aThen_e ?_ | refine aBlk_hit ?_ | refine AW.label ?_ | refine AW.scope ?_ | refine aNg_n ?_ | refine aNg_r ?_ | refine aNg_e ?_)
       | ((with_reducible refine AW.region ?_); with_reducible refine aops_run (by simp [List.replicate_succ]; first | exact rfl | exact ⟨rfl, rfl⟩) ?_)
       | ((with_reducible refine AW.draw mixedP ?_ ?_); (focus first | exact .inl rfl | exact .inr (by decide)); with_reducible refine adraw_go (by simp [List.replicate_succ]; first | exact rfl | exact ⟨rfl, rfl, rfl⟩) ?_)
       | (with_reducible refine adraw_done (by kernel_rfl) ?_)
       | ((with_reducible refine aBlk_miss ?_ ?_); focus decide)
       | ((with_reducible refine cond_t ?_ ?_); focus (simp [ev]; done))
       | ((with_reducible refine cond_f ?_ ?_); focus (simp [ev]; done)))
      (with_reducible first | refine aops_c (hfew) Try.func22 (by kernel_rfl) (by kernel_rfl) ?_ ?_ ?_ | refine adraw_c (hfew) Try.func22 (by kernel_rfl) (by kernel_rfl) ?_ ?_ ?_)
      focus (simp [gate]; done)
      focus (simp [pubCall]; done)
      first | (with_reducible refine aops_run (by simp [List.replicate_succ]; first | exact rfl | exact ⟨rfl, rfl⟩) ?_) | (with_reducible refine adraw_go (by simp [List.replicate_succ]; first | exact rfl | exact ⟨rfl, rfl, rfl⟩) ?_)
      (with_reducible first | refine aops_c (hval) Try.func52 (by kernel_rfl) (by kernel_rfl) ?_ ?_ ?_ | refine adraw_c (hval) Try.func52 (by kernel_rfl) (by kernel_rfl) ?_ ?_ ?_)
      focus (simp [gate]; done)
      focus (simp [pubCall]; done)
      first | (with_reducible refine aops_run (by simp [List.replicate_succ]; first | exact rfl | exact ⟨rfl, rfl⟩) ?_) | (with_reducible refine adraw_go (by simp [List.replicate_succ]; first | exact rfl | exact ⟨rfl, rfl, rfl⟩) ?_)
      repeat (first
       | (with_reducible first | refine AW.seq ?_ | refine AW.block ?_ | refine aThen_n ?_ | refine aBlk_n ?_ | refine AW.ret ?_ | refine aThen_r ?_ | refine aBlk_r ?_ | refine aops_done ?_ | refine AW.skip ?_ | refine AW.exit ?_ | refine aThen_e ?_ | refine aBlk_hit ?_ | refine AW.label ?_ | refine AW.scope ?_ | refine aNg_n ?_ | refine aNg_r ?_ | refine aNg_e ?_)
       | ((with_reducible refine AW.region ?_); with_reducible refine aops_run (by simp [List.replicate_succ]; first | exact rfl | exact ⟨rfl, rfl⟩) ?_)
       | ((with_reducible refine AW.draw mixedP ?_ ?_); (focus first | exact .inl rfl | exact .inr (by decide)); with_reducible refine adraw_go (by simp [List.replicate_succ]; first | exact rfl | exact ⟨rfl, rfl, rfl⟩) ?_)
       | (with_reducible refine adraw_done (by kernel_rfl) ?_)
       | ((with_reducible refine aBlk_miss ?_ ?_); focus decide)
       | ((with_reducible refine cond_t ?_ ?_); focus (simp [ev]; done))
       | ((with_reducible refine cond_f ?_ ?_); focus (simp [ev]; done)))
      simp [aRet, ares, aresL, ares1, V.pub, V.pubs, ldV, Try.results32]
    | true =>
      rw [hv] at hval
      by_cases h1 : 1 ≤ p
      · by_cases h2 : p ≤ 100
        · by_cases h3 : n ≤ 3000
          · refine AC.intro Try.func32 rfl ?_
            simp only [Try.ntmps32, List.map_cons, List.map_nil, List.length_cons, List.length_nil, Nat.reduceAdd, Nat.reduceSub, List.replicate_succ, List.replicate_zero, List.cons_append, List.nil_append]
            repeat (first
             | (with_reducible first | refine AW.seq ?_ | refine AW.block ?_ | refine aThen_n ?_ | refine aBlk_n ?_ | refine AW.ret ?_ | refine aThen_r ?_ | refine aBlk_r ?_ | refine aops_done ?_ | refine AW.skip ?_ | refine AW.exit ?_ | refine aThen_e ?_ | refine aBlk_hit ?_ | refine AW.label ?_ | refine AW.scope ?_ | refine aNg_n ?_ | refine aNg_r ?_ | refine aNg_e ?_)
             | ((with_reducible refine AW.region ?_); with_reducible refine aops_run (by simp [List.replicate_succ]; first | exact rfl | exact ⟨rfl, rfl⟩) ?_)
             | ((with_reducible refine AW.draw mixedP ?_ ?_); (focus first | exact .inl rfl | exact .inr (by decide)); with_reducible refine adraw_go (by simp [List.replicate_succ]; first | exact rfl | exact ⟨rfl, rfl, rfl⟩) ?_)
             | (with_reducible refine adraw_done (by kernel_rfl) ?_)
             | ((with_reducible refine aBlk_miss ?_ ?_); focus decide)
             | ((with_reducible refine cond_t ?_ ?_); focus (simp [ev]; done))
             | ((with_reducible refine cond_f ?_ ?_); focus (simp [ev]; done)))
            (with_reducible first | refine aops_c (hfew) Try.func22 (by kernel_rfl) (by kernel_rfl) ?_ ?_ ?_ | refine adraw_c (hfew) Try.func22 (by kernel_rfl) (by kernel_rfl) ?_ ?_ ?_)
            focus (simp [gate]; done)
            focus (simp [pubCall]; done)
            first | (with_reducible refine aops_run (by simp [List.replicate_succ]; first | exact rfl | exact ⟨rfl, rfl⟩) ?_) | (with_reducible refine adraw_go (by simp [List.replicate_succ]; first | exact rfl | exact ⟨rfl, rfl, rfl⟩) ?_)
            (with_reducible first | refine aops_c (hval) Try.func52 (by kernel_rfl) (by kernel_rfl) ?_ ?_ ?_ | refine adraw_c (hval) Try.func52 (by kernel_rfl) (by kernel_rfl) ?_ ?_ ?_)
            focus (simp [gate, h1, h2, h3]; done)
            focus (simp [pubCall, h1, h2, h3]; done)
            first | (with_reducible refine aops_run (by simp [List.replicate_succ, h1, h2, h3]; first | exact rfl | exact ⟨rfl, rfl⟩) ?_) | (with_reducible refine adraw_go (by simp [List.replicate_succ, h1, h2, h3]; first | exact rfl | exact ⟨rfl, rfl, rfl⟩) ?_)
            repeat (first
             | (with_reducible first | refine AW.seq ?_ | refine AW.block ?_ | refine aThen_n ?_ | refine aBlk_n ?_ | refine AW.ret ?_ | refine aThen_r ?_ | refine aBlk_r ?_ | refine aops_done ?_ | refine AW.skip ?_ | refine AW.exit ?_ | refine aThen_e ?_ | refine aBlk_hit ?_ | refine AW.label ?_ | refine AW.scope ?_ | refine aNg_n ?_ | refine aNg_r ?_ | refine aNg_e ?_)
             | ((with_reducible refine AW.region ?_); with_reducible refine aops_run (by simp [List.replicate_succ]; first | exact rfl | exact ⟨rfl, rfl⟩) ?_)
             | ((with_reducible refine AW.draw mixedP ?_ ?_); (focus first | exact .inl rfl | exact .inr (by decide)); with_reducible refine adraw_go (by simp [List.replicate_succ]; first | exact rfl | exact ⟨rfl, rfl, rfl⟩) ?_)
             | (with_reducible refine adraw_done (by kernel_rfl) ?_)
             | ((with_reducible refine aBlk_miss ?_ ?_); focus decide)
             | ((with_reducible refine cond_t ?_ ?_); focus (simp [ev]; done))
             | ((with_reducible refine cond_f ?_ ?_); focus (simp [ev]; done)))
            simp [aRet, ares, aresL, ares1, V.pub, V.pubs, ldV, Try.results32, h1, h2, h3]
          · refine AC.intro Try.func32 rfl ?_
            simp only [Try.ntmps32, List.map_cons, List.map_nil, List.length_cons, List.length_nil, Nat.reduceAdd, Nat.reduceSub, List.replicate_succ, List.replicate_zero, List.cons_append, List.nil_append]
            repeat (first
             | (with_reducible first | refine AW.seq ?_ | refine AW.block ?_ | refine aThen_n ?_ | refine aBlk_n ?_ | refine AW.ret ?_ | refine aThen_r ?_ | refine aBlk_r ?_ | refine aops_done ?_ | refine AW.skip ?_ | refine AW.exit ?_ | refine aThen_e ?_ | refine aBlk_hit ?_ | refine AW.label ?_ | refine AW.scope ?_ | refine aNg_n ?_ | refine aNg_r ?_ | refine aNg_e ?_)
             | ((with_reducible refine AW.region ?_); with_reducible refine aops_run (by simp [List.replicate_succ]; first | exact rfl | exact ⟨rfl, rfl⟩) ?_)
             | ((with_reducible refine AW.draw mixedP ?_ ?_); (focus first | exact .inl rfl | exact .inr (by decide)); with_reducible refine adraw_go (by simp [List.replicate_succ]; first | exact rfl | exact ⟨rfl, rfl, rfl⟩) ?_)
             | (with_reducible refine adraw_done (by kernel_rfl) ?_)
             | ((with_reducible refine aBlk_miss ?_ ?_); focus decide)
             | ((with_reducible refine cond_t ?_ ?_); focus (simp [ev]; done))
             | ((with_reducible refine cond_f ?_ ?_); focus (simp [ev]; done)))
            (with_reducible first | refine aops_c (hfew) Try.func22 (by kernel_rfl) (by kernel_rfl) ?_ ?_ ?_ | refine adraw_c (hfew) Try.func22 (by kernel_rfl) (by kernel_rfl) ?_ ?_ ?_)
            focus (simp [gate]; done)
            focus (simp [pubCall]; done)
            first | (with_reducible refine aops_run (by simp [List.replicate_succ]; first | exact rfl | exact ⟨rfl, rfl⟩) ?_) | (with_reducible refine adraw_go (by simp [List.replicate_succ]; first | exact rfl | exact ⟨rfl, rfl, rfl⟩) ?_)
            (with_reducible first | refine aops_c (hval) Try.func52 (by kernel_rfl) (by kernel_rfl) ?_ ?_ ?_ | refine adraw_c (hval) Try.func52 (by kernel_rfl) (by kernel_rfl) ?_ ?_ ?_)
            focus (simp [gate, h1, h2, h3]; done)
            focus (simp [pubCall, h1, h2, h3]; done)
            first | (with_reducible refine aops_run (by simp [List.replicate_succ, h1, h2, h3]; first | exact rfl | exact ⟨rfl, rfl⟩) ?_) | (with_reducible refine adraw_go (by simp [List.replicate_succ, h1, h2, h3]; first | exact rfl | exact ⟨rfl, rfl, rfl⟩) ?_)
            repeat (first
             | (with_reducible first | refine AW.seq ?_ | refine AW.block ?_ | refine aThen_n ?_ | refine aBlk_n ?_ | refine AW.ret ?_ | refine aThen_r ?_ | refine aBlk_r ?_ | refine aops_done ?_ | refine AW.skip ?_ | refine AW.exit ?_ | refine aThen_e ?_ | refine aBlk_hit ?_ | refine AW.label ?_ | refine AW.scope ?_ | refine aNg_n ?_ | refine aNg_r ?_ | refine aNg_e ?_)
             | ((with_reducible refine AW.region ?_); with_reducible refine aops_run (by simp [List.replicate_succ]; first | exact rfl | exact ⟨rfl, rfl⟩) ?_)
             | ((with_reducible refine AW.draw mixedP ?_ ?_); (focus first | exact .inl rfl | exact .inr (by decide)); with_reducible refine adraw_go (by simp [List.replicate_succ]; first | exact rfl | exact ⟨rfl, rfl, rfl⟩) ?_)
             | (with_reducible refine adraw_done (by kernel_rfl) ?_)
             | ((with_reducible refine aBlk_miss ?_ ?_); focus decide)
             | ((with_reducible refine cond_t ?_ ?_); focus (simp [ev]; done))
             | ((with_reducible refine cond_f ?_ ?_); focus (simp [ev]; done)))
            simp [aRet, ares, aresL, ares1, V.pub, V.pubs, ldV, Try.results32, h1, h2, h3]
        · refine AC.intro Try.func32 rfl ?_
          simp only [Try.ntmps32, List.map_cons, List.map_nil, List.length_cons, List.length_nil, Nat.reduceAdd, Nat.reduceSub, List.replicate_succ, List.replicate_zero, List.cons_append, List.nil_append]
          repeat (first
           | (with_reducible first | refine AW.seq ?_ | refine AW.block ?_ | refine aThen_n ?_ | refine aBlk_n ?_ | refine AW.ret ?_ | refine aThen_r ?_ | refine aBlk_r ?_ | refine aops_done ?_ | refine AW.skip ?_ | refine AW.exit ?_ | refine aThen_e ?_ | refine aBlk_hit ?_ | refine AW.label ?_ | refine AW.scope ?_ | refine aNg_n ?_ | refine aNg_r ?_ | refine aNg_e ?_)
           | ((with_reducible refine AW.region ?_); with_reducible refine aops_run (by simp [List.replicate_succ]; first | exact rfl | exact ⟨rfl, rfl⟩) ?_)
           | ((with_reducible refine AW.draw mixedP ?_ ?_); (focus first | exact .inl rfl | exact .inr (by decide)); with_reducible refine adraw_go (by simp [List.replicate_succ]; first | exact rfl | exact ⟨rfl, rfl, rfl⟩) ?_)
           | (with_reducible refine adraw_done (by kernel_rfl) ?_)
           | ((with_reducible refine aBlk_miss ?_ ?_); focus decide)
           | ((with_reducible refine cond_t ?_ ?_); focus (simp [ev]; done))
           | ((with_reducible refine cond_f ?_ ?_); focus (simp [ev]; done)))
          (with_reducible first | refine aops_c (hfew) Try.func22 (by kernel_rfl) (by kernel_rfl) ?_ ?_ ?_ | refine adraw_c (hfew) Try.func22 (by kernel_rfl) (by kernel_rfl) ?_ ?_ ?_)
          focus (simp [gate]; done)
          focus (simp [pubCall]; done)
          first | (with_reducible refine aops_run (by simp [List.replicate_succ]; first | exact rfl | exact ⟨rfl, rfl⟩) ?_) | (with_reducible refine adraw_go (by simp [List.replicate_succ]; first | exact rfl | exact ⟨rfl, rfl, rfl⟩) ?_)
          (with_reducible first | refine aops_c (hval) Try.func52 (by kernel_rfl) (by kernel_rfl) ?_ ?_ ?_ | refine adraw_c (hval) Try.func52 (by kernel_rfl) (by kernel_rfl) ?_ ?_ ?_)
          focus (simp [gate, h1, h2]; done)
          focus (simp [pubCall, h1, h2]; done)
          first | (with_reducible refine aops_run (by simp [List.replicate_succ, h1, h2]; first | exact rfl | exact ⟨rfl, rfl⟩) ?_) | (with_reducible refine adraw_go (by simp [List.replicate_succ, h1, h2]; first | exact rfl | exact ⟨rfl, rfl, rfl⟩) ?_)
          repeat (first
           | (with_reducible first | refine AW.seq ?_ | refine AW.block ?_ | refine aThen_n ?_ | refine aBlk_n ?_ | refine AW.ret ?_ | refine aThen_r ?_ | refine aBlk_r ?_ | refine aops_done ?_ | refine AW.skip ?_ | refine AW.exit ?_ | refine aThen_e ?_ | refine aBlk_hit ?_ | refine AW.label ?_ | refine AW.scope ?_ | refine aNg_n ?_ | refine aNg_r ?_ | refine aNg_e ?_)
           | ((with_reducible refine AW.region ?_); with_reducible refine aops_run (by simp [List.replicate_succ]; first | exact rfl | exact ⟨rfl, rfl⟩) ?_)
           | ((with_reducible refine AW.draw mixedP ?_ ?_); (focus first | exact .inl rfl | exact .inr (by decide)); with_reducible refine adraw_go (by simp [List.replicate_succ]; first | exact rfl | exact ⟨rfl, rfl, rfl⟩) ?_)
           | (with_reducible refine adraw_done (by kernel_rfl) ?_)
           | ((with_reducible refine aBlk_miss ?_ ?_); focus decide)
           | ((with_reducible refine cond_t ?_ ?_); focus (simp [ev]; done))
           | ((with_reducible refine cond_f ?_ ?_); focus (simp [ev]; done)))
          simp [aRet, ares, aresL, ares1, V.pub, V.pubs, ldV, Try.results32, h1, h2]
      · refine AC.intro Try.func32 rfl ?_
        simp only [Try.ntmps32, List.map_cons, List.map_nil, List.length_cons, List.length_nil, Nat.reduceAdd, Nat.reduceSub, List.replicate_succ, List.replicate_zero, List.cons_append, List.nil_append]
        repeat (first
         | (with_reducible first | refine AW.seq ?_ | refine AW.block ?_ | refine aThen_n ?_ | refine aBlk_n ?_ | refine AW.ret ?_ | refine aThen_r ?_ | refine aBlk_r ?_ | refine aops_done ?_ | refine AW.skip ?_ | refine AW.exit ?_ | refine aThen_e ?_ | refine aBlk_hit ?_ | refine AW.label ?_ | refine AW.scope ?_ | refine aNg_n ?_ | refine aNg_r ?_ | refine aNg_e ?_)
         | ((with_reducible refine AW.region ?_); with_reducible refine aops_run (by simp [List.replicate_succ]; first | exact rfl | exact ⟨rfl, rfl⟩) ?_)
         | ((with_reducible refine AW.draw mixedP ?_ ?_); (focus first | exact .inl rfl | exact .inr (by decide)); with_reducible refine adraw_go (by simp [List.replicate_succ]; first | exact rfl | exact ⟨rfl, rfl, rfl⟩) ?_)
         | (with_reducible refine adraw_done (by kernel_rfl) ?_)
         | ((with_reducible refine aBlk_miss ?_ ?_); focus decide)
         | ((with_reducible refine cond_t ?_ ?_); focus (simp [ev]; done))
         | ((with_reducible refine cond_f ?_ ?_); focus (simp [ev]; done)))
        (with_reducible first | refine aops_c (hfew) Try.func22 (by kernel_rfl) (by kernel_rfl) ?_ ?_ ?_ | refine adraw_c (hfew) Try.func22 (by kernel_rfl) (by kernel_rfl) ?_ ?_ ?_)
        focus (simp [gate]; done)
        focus (simp [pubCall]; done)
        first | (with_reducible refine aops_run (by simp [List.replicate_succ]; first | exact rfl | exact ⟨rfl, rfl⟩) ?_) | (with_reducible refine adraw_go (by simp [List.replicate_succ]; first | exact rfl | exact ⟨rfl, rfl, rfl⟩) ?_)
        (with_reducible first | refine aops_c (hval) Try.func52 (by kernel_rfl) (by kernel_rfl) ?_ ?_ ?_ | refine adraw_c (hval) Try.func52 (by kernel_rfl) (by kernel_rfl) ?_ ?_ ?_)
        focus (simp [gate, h1]; done)
        focus (simp [pubCall, h1]; done)
        first | (with_reducible refine aops_run (by simp [List.replicate_succ, h1]; first | exact rfl | exact ⟨rfl, rfl⟩) ?_) | (with_reducible refine adraw_go (by simp [List.replicate_succ, h1]; first | exact rfl | exact ⟨rfl, rfl, rfl⟩) ?_)
        repeat (first
         | (with_reducible first | refine AW.seq ?_ | refine AW.block ?_ | refine aThen_n ?_ | refine aBlk_n ?_ | refine AW.ret ?_ | refine aThen_r ?_ | refine aBlk_r ?_ | refine aops_done ?_ | refine AW.skip ?_ | refine AW.exit ?_ | refine aThen_e ?_ | refine aBlk_hit ?_ | refine AW.label ?_ | refine AW.scope ?_ | refine aNg_n ?_ | refine aNg_r ?_ | refine aNg_e ?_)
         | ((with_reducible refine AW.region ?_); with_reducible refine aops_run (by simp [List.replicate_succ]; first | exact rfl | exact ⟨rfl, rfl⟩) ?_)
         | ((with_reducible refine AW.draw mixedP ?_ ?_); (focus first | exact .inl rfl | exact .inr (by decide)); with_reducible refine adraw_go (by simp [List.replicate_succ]; first | exact rfl | exact ⟨rfl, rfl, rfl⟩) ?_)
         | (with_reducible refine adraw_done (by kernel_rfl) ?_)
         | ((with_reducible refine aBlk_miss ?_ ?_); focus decide)
         | ((with_reducible refine cond_t ?_ ?_); focus (simp [ev]; done))
         | ((with_reducible refine cond_f ?_ ?_); focus (simp [ev]; done)))
        simp [aRet, ares, aresL, ares1, V.pub, V.pubs, ldV, Try.results32, h1]
theorem small_true {f : Font} {n p : Int} (h : smallB f n p = true) : fewB f = true ∧ f.valid = true ∧ 1 ≤ p ∧ p ≤ 100 ∧ n ≤ 3000 ∧ checkR f p = 0 := by
  simp only [smallB, Bool.and_eq_true, decide_eq_true_eq] at h
  obtain ⟨h1, h2, h3, h4, h5⟩ := h
  exact ⟨h1, h2, h3, h4, h5, by simp [checkR, h2]; omega⟩

theorem is_size {f : Font} {name m : ByteArray} {s : Stretch} (hst : f.stretch name = some s) (hm : m ∈ s.sizes) : isR f name ⟨m, 0⟩ = true := by
  unfold isR
  rw [hst]
  simp only [if_true]
  exact hasS_mem hm
theorem is_asm {f : Font} {name : ByteArray} {s : Stretch} (hst : f.stretch name = some s) (hp : s.parts ≠ []) {r : Int} (h1 : 1 ≤ r) (h2 : r ≤ 1000) : isR f name ⟨⟨#[]⟩, r⟩ = true := by
  unfold isR
  rw [hst]
  have h0 : ¬ r = 0 := by omega
  have hl : 0 < s.parts.length := List.length_pos_iff.2 hp
  simp [h0, hl, h1, h2]
theorem no_asm {f : Font} {name : ByteArray} {s : Stretch} (hst : f.stretch name = some s) (hp : s.parts = []) {r : Int} (h1 : 1 ≤ r) : isR f name ⟨⟨#[]⟩, r⟩ = false := by
  unfold isR
  rw [hst]
  have h0 : ¬ r = 0 := by omega
  simp [h0, hp]
end Go.Proofs.Ythbcljjpmdfflaa
