/-
  variant.known on the abstract machine.
-/
import Derived.Test.YthbcljjpmdfflaaVg
import Derived.Test.YthbcljjpmdfflaaG4
namespace Go.Proofs.Ythbcljjpmdfflaa
open Go.RowKit
set_option linter.unusedSimpArgs false
set_option linter.unusedVariables false
set_option maxRecDepth 100000

theorem known_s (f : Font) (name cg : ByteArray) (cr : Int) (s : Stretch) (hf : f.Fit) (hv : f.valid = true) (hst : f.stretch name = some s) : AC Try.prog 108 [.agg f.vs, .c (.str name), .agg [.c (.str cg), .c (.int .i64 cr)]] (.c (.bool (isR f name ⟨cg, cr⟩))) := by
  have hs := (stretchO_mem hst).1
  have hG := good_of hv hs
  have hR : isR f name ⟨cg, cr⟩ = if cr = 0 then hasS cg s.sizes else decide (cg = ⟨#[]⟩) && (decide (0 < s.parts.length) && (decide (1 ≤ cr) && decide (cr ≤ 1000))) := by unfold isR; rw [hst]
  by_cases h1 : cr = 0
  · rw [if_pos h1] at hR
    subst h1
    have hca := contains_a s.sizes cg (by have := hG.sizes2; omega)
    refine AC.intro Try.func108 rfl ?_
    simp only [Try.ntmps108, List.map_cons, List.map_nil, List.length_cons, List.length_nil, Nat.reduceAdd, Nat.reduceSub, List.replicate_succ, List.replicate_zero, List.cons_append, List.nil_append]
    repeat (first
     | (with_reducible first | refine AW.seq ?_ | refine AW.block ?_ | refine aThen_n ?_ | refine aBlk_n ?_ | refine AW.ret ?_ | refine aThen_r ?_ | refine aBlk_r ?_ | refine aops_done ?_ | refine AW.skip ?_ | refine AW.exit ?_ | refine aThen_e ?_ | refine aBlk_hit ?_ | refine AW.label ?_ | refine AW.scope ?_ | refine aNg_n ?_ | refine aNg_r ?_ | refine aNg_e ?_)
     | ((with_reducible refine AW.region ?_); with_reducible refine aops_run (by simp [List.replicate_succ]; first | exact rfl | exact ⟨rfl, rfl⟩) ?_)
     | ((with_reducible refine AW.draw mixedP ?_ ?_); (focus first | exact .inl rfl | exact .inr (by decide)); with_reducible refine adraw_go (by simp [List.replicate_succ]; first | exact rfl | exact ⟨rfl, rfl, rfl⟩) ?_)
     | (with_reducible refine adraw_done (by kernel_rfl) ?_)
     | ((with_reducible refine aBlk_miss ?_ ?_); focus decide)
     | ((with_reducible refine cond_t ?_ ?_); focus (simp [ev]; done))
     | ((with_reducible refine cond_f ?_ ?_); focus (simp [ev]; done)))
    (with_reducible first | refine aops_c (vstretch_a f name hf hv) Try.func103 (by kernel_rfl) (by kernel_rfl) ?_ ?_ ?_ | refine adraw_c (vstretch_a f name hf hv) Try.func103 (by kernel_rfl) (by kernel_rfl) ?_ ?_ ?_)
    focus (simp [gate, foundS, stretchV, Stretch.row, hst]; done)
    focus (simp [pubCall, foundS, stretchV, Stretch.row, hst]; done)
    first | (with_reducible refine aops_run (by simp [List.replicate_succ, foundS, stretchV, Stretch.row, hst]; first | exact rfl | exact ⟨rfl, rfl⟩) ?_) | (with_reducible refine adraw_go (by simp [List.replicate_succ, foundS, stretchV, Stretch.row, hst]; first | exact rfl | exact ⟨rfl, rfl, rfl⟩) ?_)
    repeat (first
     | (with_reducible first | refine AW.seq ?_ | refine AW.block ?_ | refine aThen_n ?_ | refine aBlk_n ?_ | refine AW.ret ?_ | refine aThen_r ?_ | refine aBlk_r ?_ | refine aops_done ?_ | refine AW.skip ?_ | refine AW.exit ?_ | refine aThen_e ?_ | refine aBlk_hit ?_ | refine AW.label ?_ | refine AW.scope ?_ | refine aNg_n ?_ | refine aNg_r ?_ | refine aNg_e ?_)
     | ((with_reducible refine AW.region ?_); with_reducible refine aops_run (by simp [List.replicate_succ]; first | exact rfl | exact ⟨rfl, rfl⟩) ?_)
     | ((with_reducible refine AW.draw mixedP ?_ ?_); (focus first | exact .inl rfl | exact .inr (by decide)); with_reducible refine adraw_go (by simp [List.replicate_succ]; first | exact rfl | exact ⟨rfl, rfl, rfl⟩) ?_)
     | (with_reducible refine adraw_done (by kernel_rfl) ?_)
     | ((with_reducible refine aBlk_miss ?_ ?_); focus decide)
     | ((with_reducible refine cond_t ?_ ?_); focus (simp [ev]; done))
     | ((with_reducible refine cond_f ?_ ?_); focus (simp [ev]; done)))
    (with_reducible first | refine aops_c (hca) Try.func137 (by kernel_rfl) (by kernel_rfl) ?_ ?_ ?_ | refine adraw_c (hca) Try.func137 (by kernel_rfl) (by kernel_rfl) ?_ ?_ ?_)
    focus (simp [gate]; done)
    focus (simp [pubCall]; done)
    first | (with_reducible refine aops_run (by simp [List.replicate_succ]; first | exact rfl | exact ⟨rfl, rfl⟩) ?_) | (with_reducible refine adraw_go (by simp [List.replicate_succ]; first | exact rfl | exact ⟨rfl, rfl, rfl⟩) ?_)
    repeat (first
     | (with_reducible first | refine AW.seq ?_ | refine AW.block ?_ | refine aThen_n ?_ | refine aBlk_n ?_ | refine AW.ret ?_ | refine aThen_r ?_ | refine aBlk_r ?_ | refine aops_done ?_ | refine AW.skip ?_ | refine AW.exit ?_ | refine aThen_e ?_ | refine aBlk_hit ?_ | refine AW.label ?_ | refine AW.scope ?_ | refine aNg_n ?_ | refine aNg_r ?_ | refine aNg_e ?_)
     | ((with_reducible refine AW.region ?_); with_reducible refine aops_run (by simp [List.replicate_succ]; first | exact rfl | exact ⟨rfl, rfl⟩) ?_)
     | ((with_reducible refine AW.draw mixedP ?_ ?_); (focus first | exact .inl rfl | exact .inr (by decide)); with_reducible refine adraw_go (by simp [List.replicate_succ]; first | exact rfl | exact ⟨rfl, rfl, rfl⟩) ?_)
     | (with_reducible refine adraw_done (by kernel_rfl) ?_)
     | ((with_reducible refine aBlk_miss ?_ ?_); focus decide)
     | ((with_reducible refine cond_t ?_ ?_); focus (simp [ev]; done))
     | ((with_reducible refine cond_f ?_ ?_); focus (simp [ev]; done)))
    simp [aRet, ares, aresL, ares1, V.pub, V.pubs, ldV, Try.results108, hR]
  · rw [if_neg h1] at hR
    by_cases h2 : cg = ⟨#[]⟩
    · subst h2
      by_cases h3 : (0 : Int) < (s.parts.length : Int)
      · have h3' : 0 < s.parts.length := by omega
        by_cases h4 : 1 ≤ cr
        · refine AC.intro Try.func108 rfl ?_
          simp only [Try.ntmps108, List.map_cons, List.map_nil, List.length_cons, List.length_nil, Nat.reduceAdd, Nat.reduceSub, List.replicate_succ, List.replicate_zero, List.cons_append, List.nil_append]
          repeat (first
           | (with_reducible first | refine AW.seq ?_ | refine AW.block ?_ | refine aThen_n ?_ | refine aBlk_n ?_ | refine AW.ret ?_ | refine aThen_r ?_ | refine aBlk_r ?_ | refine aops_done ?_ | refine AW.skip ?_ | refine AW.exit ?_ | refine aThen_e ?_ | refine aBlk_hit ?_ | refine AW.label ?_ | refine AW.scope ?_ | refine aNg_n ?_ | refine aNg_r ?_ | refine aNg_e ?_)
           | ((with_reducible refine AW.region ?_); with_reducible refine aops_run (by simp [List.replicate_succ]; first | exact rfl | exact ⟨rfl, rfl⟩) ?_)
           | ((with_reducible refine AW.draw mixedP ?_ ?_); (focus first | exact .inl rfl | exact .inr (by decide)); with_reducible refine adraw_go (by simp [List.replicate_succ]; first | exact rfl | exact ⟨rfl, rfl, rfl⟩) ?_)
           | (with_reducible refine adraw_done (by kernel_rfl) ?_)
           | ((with_reducible refine aBlk_miss ?_ ?_); focus decide)
           | ((with_reducible refine cond_t ?_ ?_); focus (simp [ev]; done))
           | ((with_reducible refine cond_f ?_ ?_); focus (simp [ev]; done)))
          (with_reducible first | refine aops_c (vstretch_a f name hf hv) Try.func103 (by kernel_rfl) (by kernel_rfl) ?_ ?_ ?_ | refine adraw_c (vstretch_a f name hf hv) Try.func103 (by kernel_rfl) (by kernel_rfl) ?_ ?_ ?_)
          focus (simp [gate, foundS, stretchV, Stretch.row, hst]; done)
          focus (simp [pubCall, foundS, stretchV, Stretch.row, hst]; done)
          first | (with_reducible refine aops_run (by simp [List.replicate_succ, foundS, stretchV, Stretch.row, hst]; first | exact rfl | exact ⟨rfl, rfl⟩) ?_) | (with_reducible refine adraw_go (by simp [List.replicate_succ, foundS, stretchV, Stretch.row, hst]; first | exact rfl | exact ⟨rfl, rfl, rfl⟩) ?_)
          repeat (first
           | (with_reducible first | refine AW.seq ?_ | refine AW.block ?_ | refine aThen_n ?_ | refine aBlk_n ?_ | refine AW.ret ?_ | refine aThen_r ?_ | refine aBlk_r ?_ | refine aops_done ?_ | refine AW.skip ?_ | refine AW.exit ?_ | refine aThen_e ?_ | refine aBlk_hit ?_ | refine AW.label ?_ | refine AW.scope ?_ | refine aNg_n ?_ | refine aNg_r ?_ | refine aNg_e ?_)
           | ((with_reducible refine AW.region ?_); with_reducible refine aops_run (by simp [List.replicate_succ, h1, h3, h3', h4, partsC]; first | exact rfl | exact ⟨rfl, rfl⟩) ?_)
           | ((with_reducible refine AW.draw mixedP ?_ ?_); (focus first | exact .inl rfl | exact .inr (by decide)); with_reducible refine adraw_go (by simp [List.replicate_succ, h1, h3, h3', h4, partsC]; first | exact rfl | exact ⟨rfl, rfl, rfl⟩) ?_)
           | (with_reducible refine adraw_done (by kernel_rfl) ?_)
           | ((with_reducible refine aBlk_miss ?_ ?_); focus decide)
           | ((with_reducible refine cond_t ?_ ?_); focus (simp [ev, h1, h3, h3', h4, partsC]; done))
           | ((with_reducible refine cond_f ?_ ?_); focus (simp [ev, h1, h3, h3', h4, partsC]; done)))
          simp [aRet, ares, aresL, ares1, V.pub, V.pubs, ldV, Try.results108, hR, h3', h4]
        · refine AC.intro Try.func108 rfl ?_
          simp only [Try.ntmps108, List.map_cons, List.map_nil, List.length_cons, List.length_nil, Nat.reduceAdd, Nat.reduceSub, List.replicate_succ, List.replicate_zero, List.cons_append, List.nil_append]
          repeat (first
           | (with_reducible first | refine AW.seq ?_ | refine AW.block ?_ | refine aThen_n ?_ | refine aBlk_n ?_ | refine AW.ret ?_ | refine aThen_r ?_ | refine aBlk_r ?_ | refine aops_done ?_ | refine AW.skip ?_ | refine AW.exit ?_ | refine aThen_e ?_ | refine aBlk_hit ?_ | refine AW.label ?_ | refine AW.scope ?_ | refine aNg_n ?_ | refine aNg_r ?_ | refine aNg_e ?_)
           | ((with_reducible refine AW.region ?_); with_reducible refine aops_run (by simp [List.replicate_succ]; first | exact rfl | exact ⟨rfl, rfl⟩) ?_)
           | ((with_reducible refine AW.draw mixedP ?_ ?_); (focus first | exact .inl rfl | exact .inr (by decide)); with_reducible refine adraw_go (by simp [List.replicate_succ]; first | exact rfl | exact ⟨rfl, rfl, rfl⟩) ?_)
           | (with_reducible refine adraw_done (by kernel_rfl) ?_)
           | ((with_reducible refine aBlk_miss ?_ ?_); focus decide)
           | ((with_reducible refine cond_t ?_ ?_); focus (simp [ev]; done))
           | ((with_reducible refine cond_f ?_ ?_); focus (simp [ev]; done)))
          (with_reducible first | refine aops_c (vstretch_a f name hf hv) Try.func103 (by kernel_rfl) (by kernel_rfl) ?_ ?_ ?_ | refine adraw_c (vstretch_a f name hf hv) Try.func103 (by kernel_rfl) (by kernel_rfl) ?_ ?_ ?_)
          focus (simp [gate, foundS, stretchV, Stretch.row, hst]; done)
          focus (simp [pubCall, foundS, stretchV, Stretch.row, hst]; done)
          first | (with_reducible refine aops_run (by simp [List.replicate_succ, foundS, stretchV, Stretch.row, hst]; first | exact rfl | exact ⟨rfl, rfl⟩) ?_) | (with_reducible refine adraw_go (by simp [List.replicate_succ, foundS, stretchV, Stretch.row, hst]; first | exact rfl | exact ⟨rfl, rfl, rfl⟩) ?_)
          repeat (first
           | (with_reducible first | refine AW.seq ?_ | refine AW.block ?_ | refine aThen_n ?_ | refine aBlk_n ?_ | refine AW.ret ?_ | refine aThen_r ?_ | refine aBlk_r ?_ | refine aops_done ?_ | refine AW.skip ?_ | refine AW.exit ?_ | refine aThen_e ?_ | refine aBlk_hit ?_ | refine AW.label ?_ | refine AW.scope ?_ | refine aNg_n ?_ | refine aNg_r ?_ | refine aNg_e ?_)
           | ((with_reducible refine AW.region ?_); with_reducible refine aops_run (by simp [List.replicate_succ, h1, h3, h3', h4, partsC]; first | exact rfl | exact ⟨rfl, rfl⟩) ?_)
           | ((with_reducible refine AW.draw mixedP ?_ ?_); (focus first | exact .inl rfl | exact .inr (by decide)); with_reducible refine adraw_go (by simp [List.replicate_succ, h1, h3, h3', h4, partsC]; first | exact rfl | exact ⟨rfl, rfl, rfl⟩) ?_)
           | (with_reducible refine adraw_done (by kernel_rfl) ?_)
           | ((with_reducible refine aBlk_miss ?_ ?_); focus decide)
           | ((with_reducible refine cond_t ?_ ?_); focus (simp [ev, h1, h3, h3', h4, partsC]; done))
           | ((with_reducible refine cond_f ?_ ?_); focus (simp [ev, h1, h3, h3', h4, partsC]; done)))
          simp [aRet, ares, aresL, ares1, V.pub, V.pubs, ldV, Try.results108, hR, h3', h4]
      · have h3'' : s.parts = [] := List.eq_nil_of_length_eq_zero (by omega)
        refine AC.intro Try.func108 rfl ?_
        simp only [Try.ntmps108, List.map_cons, List.map_nil, List.length_cons, List.length_nil, Nat.reduceAdd, Nat.reduceSub, List.replicate_succ, List.replicate_zero, List.cons_append, List.nil_append]
        repeat (first
         | (with_reducible first | refine AW.seq ?_ | refine AW.block ?_ | refine aThen_n ?_ | refine aBlk_n ?_ | refine AW.ret ?_ | refine aThen_r ?_ | refine aBlk_r ?_ | refine aops_done ?_ | refine AW.skip ?_ | refine AW.exit ?_ | refine aThen_e ?_ | refine aBlk_hit ?_ | refine AW.label ?_ | refine AW.scope ?_ | refine aNg_n ?_ | refine aNg_r ?_ | refine aNg_e ?_)
         | ((with_reducible refine AW.region ?_); with_reducible refine aops_run (by simp [List.replicate_succ]; first | exact rfl | exact ⟨rfl, rfl⟩) ?_)
         | ((with_reducible refine AW.draw mixedP ?_ ?_); (focus first | exact .inl rfl | exact .inr (by decide)); with_reducible refine adraw_go (by simp [List.replicate_succ]; first | exact rfl | exact ⟨rfl, rfl, rfl⟩) ?_)
         | (with_reducible refine adraw_done (by kernel_rfl) ?_)
         | ((with_reducible refine aBlk_miss ?_ ?_); focus decide)
         | ((with_reducible refine cond_t ?_ ?_); focus (simp [ev]; done))
         | ((with_reducible refine cond_f ?_ ?_); focus (simp [ev]; done)))
        (with_reducible first | refine aops_c (vstretch_a f name hf hv) Try.func103 (by kernel_rfl) (by kernel_rfl) ?_ ?_ ?_ | refine adraw_c (vstretch_a f name hf hv) Try.func103 (by kernel_rfl) (by kernel_rfl) ?_ ?_ ?_)
        focus (simp [gate, foundS, stretchV, Stretch.row, hst]; done)
        focus (simp [pubCall, foundS, stretchV, Stretch.row, hst]; done)
        first | (with_reducible refine aops_run (by simp [List.replicate_succ, foundS, stretchV, Stretch.row, hst]; first | exact rfl | exact ⟨rfl, rfl⟩) ?_) | (with_reducible refine adraw_go (by simp [List.replicate_succ, foundS, stretchV, Stretch.row, hst]; first | exact rfl | exact ⟨rfl, rfl, rfl⟩) ?_)
        repeat (first
         | (with_reducible first | refine AW.seq ?_ | refine AW.block ?_ | refine aThen_n ?_ | refine aBlk_n ?_ | refine AW.ret ?_ | refine aThen_r ?_ | refine aBlk_r ?_ | refine aops_done ?_ | refine AW.skip ?_ | refine AW.exit ?_ | refine aThen_e ?_ | refine aBlk_hit ?_ | refine AW.label ?_ | refine AW.scope ?_ | refine aNg_n ?_ | refine aNg_r ?_ | refine aNg_e ?_)
         | ((with_reducible refine AW.region ?_); with_reducible refine aops_run (by simp [List.replicate_succ, h1, h3'', partsC]; first | exact rfl | exact ⟨rfl, rfl⟩) ?_)
         | ((with_reducible refine AW.draw mixedP ?_ ?_); (focus first | exact .inl rfl | exact .inr (by decide)); with_reducible refine adraw_go (by simp [List.replicate_succ, h1, h3'', partsC]; first | exact rfl | exact ⟨rfl, rfl, rfl⟩) ?_)
         | (with_reducible refine adraw_done (by kernel_rfl) ?_)
         | ((with_reducible refine aBlk_miss ?_ ?_); focus decide)
         | ((with_reducible refine cond_t ?_ ?_); focus (simp [ev, h1, h3'', partsC]; done))
         | ((with_reducible refine cond_f ?_ ?_); focus (simp [ev, h1, h3'', partsC]; done)))
        simp [aRet, ares, aresL, ares1, V.pub, V.pubs, ldV, Try.results108, hR, h3'']
    · refine AC.intro Try.func108 rfl ?_
      simp only [Try.ntmps108, List.map_cons, List.map_nil, List.length_cons, List.length_nil, Nat.reduceAdd, Nat.reduceSub, List.replicate_succ, List.replicate_zero, List.cons_append, List.nil_append]
      repeat (first
       | (with_reducible first | refine AW.seq ?_ | refine AW.block ?_ | refine aThen_n ?_ | refine aBlk_n ?_ | refine AW.ret ?_ | refine aThen_r ?_ | refine aBlk_r ?_ | refine aops_done ?_ | refine AW.skip ?_ | refine AW.exit ?_ | refine aThen_e ?_ | refine aBlk_hit ?_ | refine AW.label ?_ | refine AW.scope ?_ | refine aNg_n ?_ | refine aNg_r ?_ | refine aNg_e ?_)
       | ((with_reducible refine AW.region ?_); with_reducible refine aops_run (by simp [List.replicate_succ]; first | exact rfl | exact ⟨rfl, rfl⟩) ?_)
       | ((with_reducible refine AW.draw mixedP ?_ ?_); (focus first | exact .inl rfl | exact .inr (by decide)); with_reducible refine adraw_go (by simp [List.replicate_succ]; first | exact rfl | exact ⟨rfl, rfl, rfl⟩) ?_)
       | (with_reducible refine adraw_done (by kernel_rfl) ?_)
       | ((with_reducible refine aBlk_miss ?_ ?_); focus decide)
       | ((with_reducible refine cond_t ?_ ?_); focus (simp [ev]; done))
       | ((with_reducible refine cond_f ?_ ?_); focus (simp [ev]; done)))
      (with_reducible first | refine aops_c (vstretch_a f name hf hv) Try.func103 (by kernel_rfl) (by kernel_rfl) ?_ ?_ ?_ | refine adraw_c (vstretch_a f name hf hv) Try.func103 (by kernel_rfl) (by kernel_rfl) ?_ ?_ ?_)
      focus (simp [gate, foundS, stretchV, Stretch.row, hst]; done)
      focus (simp [pubCall, foundS, stretchV, Stretch.row, hst]; done)
      first | (with_reducible refine aops_run (by simp [List.replicate_succ, foundS, stretchV, Stretch.row, hst]; first | exact rfl | exact ⟨rfl, rfl⟩) ?_) | (with_reducible refine adraw_go (by simp [List.replicate_succ, foundS, stretchV, Stretch.row, hst]; first | exact rfl | exact ⟨rfl, rfl, rfl⟩) ?_)
      repeat (first
       | (with_reducible first | refine AW.seq ?_ | refine AW.block ?_ | refine aThen_n ?_ | refine aBlk_n ?_ | refine AW.ret ?_ | refine aThen_r ?_ | refine aBlk_r ?_ | refine aops_done ?_ | refine AW.skip ?_ | refine AW.exit ?_ | refine aThen_e ?_ | refine aBlk_hit ?_ | refine AW.label ?_ | refine AW.scope ?_ | refine aNg_n ?_ | refine aNg_r ?_ | refine aNg_e ?_)
       | ((with_reducible refine AW.region ?_); with_reducible refine aops_run (by simp [List.replicate_succ, h1, h2]; first | exact rfl | exact ⟨rfl, rfl⟩) ?_)
       | ((with_reducible refine AW.draw mixedP ?_ ?_); (focus first | exact .inl rfl | exact .inr (by decide)); with_reducible refine adraw_go (by simp [List.replicate_succ, h1, h2]; first | exact rfl | exact ⟨rfl, rfl, rfl⟩) ?_)
       | (with_reducible refine adraw_done (by kernel_rfl) ?_)
       | ((with_reducible refine aBlk_miss ?_ ?_); focus decide)
       | ((with_reducible refine cond_t ?_ ?_); focus (simp [ev, h1, h2]; done))
       | ((with_reducible refine cond_f ?_ ?_); focus (simp [ev, h1, h2]; done)))
      simp [aRet, ares, aresL, ares1, V.pub, V.pubs, ldV, Try.results108, hR, h2]
end Go.Proofs.Ythbcljjpmdfflaa
