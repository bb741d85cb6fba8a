/-
  Layer 6's reference on the abstract machine: check, size, Is, Tall, tall.
-/
import Derived.Test.YthbcljjpmdfflaaVs
namespace Go.Proofs.Ythbcljjpmdfflaa
open Go.RowKit
set_option linter.unusedSimpArgs false
set_option linter.unusedVariables false
set_option maxRecDepth 100000

theorem rcheck_a (f : Font) (p : Int) (hf : f.Fit) : AC Try.prog 62 [.agg f.vs, .c (.int .i64 p)] (errV (checkR f p)) := by
  cases hv : f.valid with
  | false =>
    refine AC.intro Try.func62 rfl ?_
    simp only [Try.ntmps62, List.map_cons, List.map_nil, List.length_cons, List.length_nil, Nat.reduceAdd, Nat.reduceSub, List.replicate_succ, List.replicate_zero, List.cons_append, List.nil_append]
    repeat (first
     | (with_reducible first | refine AW.seq ?_ | refine AW.block ?_ | refine aThen_n ?_ | refine aBlk_n ?_ | refine AW.ret ?_ | refine aThen_r ?_ | refine aBlk_r ?_ | refine aops_done ?_ | refine AW.skip ?_ | refine AW.exit ?_ | refine aThen_e ?_ | refine aBlk_hit ?_ | refine AW.label ?_ | refine AW.scope ?_ | refine aNg_n ?_ | refine aNg_r ?_ | refine aNg_e ?_)
     | ((with_reducible refine AW.region ?_); with_reducible refine aops_run (by simp [List.replicate_succ]; first | exact rfl | exact ⟨rfl, rfl⟩) ?_)
     | ((with_reducible refine AW.draw mixedP ?_ ?_); (focus first | exact .inl rfl | exact .inr (by decide)); with_reducible refine adraw_go (by simp [List.replicate_succ]; first | exact rfl | exact ⟨rfl, rfl, rfl⟩) ?_)
     | (with_reducible refine adraw_done (by kernel_rfl) ?_)
     | ((with_reducible refine aBlk_miss ?_ ?_); focus decide)
     | ((with_reducible refine cond_t ?_ ?_); focus (simp [ev]; done))
     | ((with_reducible refine cond_f ?_ ?_); focus (simp [ev]; done)))
    (with_reducible first | refine aops_c (rvalid_a f hf) Try.func52 (by kernel_rfl) (by kernel_rfl) ?_ ?_ ?_ | refine adraw_c (rvalid_a f hf) Try.func52 (by kernel_rfl) (by kernel_rfl) ?_ ?_ ?_)
    focus (simp [gate, hv]; done)
    focus (simp [pubCall, hv]; done)
    first | (with_reducible refine aops_run (by simp [List.replicate_succ, hv]; first | exact rfl | exact ⟨rfl, rfl⟩) ?_) | (with_reducible refine adraw_go (by simp [List.replicate_succ, hv]; first | exact rfl | exact ⟨rfl, rfl, rfl⟩) ?_)
    repeat (first
     | (with_reducible first | refine AW.seq ?_ | refine AW.block ?_ | refine aThen_n ?_ | refine aBlk_n ?_ | refine AW.ret ?_ | refine aThen_r ?_ | refine aBlk_r ?_ | refine aops_done ?_ | refine AW.skip ?_ | refine AW.exit ?_ | refine aThen_e ?_ | refine aBlk_hit ?_ | refine AW.label ?_ | refine AW.scope ?_ | refine aNg_n ?_ | refine aNg_r ?_ | refine aNg_e ?_)
     | ((with_reducible refine AW.region ?_); with_reducible refine aops_run (by simp [List.replicate_succ]; first | exact rfl | exact ⟨rfl, rfl⟩) ?_)
     | ((with_reducible refine AW.draw mixedP ?_ ?_); (focus first | exact .inl rfl | exact .inr (by decide)); with_reducible refine adraw_go (by simp [List.replicate_succ]; first | exact rfl | exact ⟨rfl, rfl, rfl⟩) ?_)
     | (with_reducible refine adraw_done (by kernel_rfl) ?_)
     | ((with_reducible refine aBlk_miss ?_ ?_); focus decide)
     | ((with_reducible refine cond_t ?_ ?_); focus (simp [ev]; done))
     | ((with_reducible refine cond_f ?_ ?_); focus (simp [ev]; done)))
    simp [aRet, ares, aresL, ares1, V.pub, V.pubs, ldV, Try.results62, errV, checkR, hv]
  | true =>
    by_cases h1 : p < 1
    · refine AC.intro Try.func62 rfl ?_
      simp only [Try.ntmps62, List.map_cons, List.map_nil, List.length_cons, List.length_nil, Nat.reduceAdd, Nat.reduceSub, List.replicate_succ, List.replicate_zero, List.cons_append, List.nil_append]
      repeat (first
       | (with_reducible first | refine AW.seq ?_ | refine AW.block ?_ | refine aThen_n ?_ | refine aBlk_n ?_ | refine AW.ret ?_ | refine aThen_r ?_ | refine aBlk_r ?_ | refine aops_done ?_ | refine AW.skip ?_ | refine AW.exit ?_ | refine aThen_e ?_ | refine aBlk_hit ?_ | refine AW.label ?_ | refine AW.scope ?_ | refine aNg_n ?_ | refine aNg_r ?_ | refine aNg_e ?_)
       | ((with_reducible refine AW.region ?_); with_reducible refine aops_run (by simp [List.replicate_succ]; first | exact rfl | exact ⟨rfl, rfl⟩) ?_)
       | ((with_reducible refine AW.draw mixedP ?_ ?_); (focus first | exact .inl rfl | exact .inr (by decide)); with_reducible refine adraw_go (by simp [List.replicate_succ]; first | exact rfl | exact ⟨rfl, rfl, rfl⟩) ?_)
       | (with_reducible refine adraw_done (by kernel_rfl) ?_)
       | ((with_reducible refine aBlk_miss ?_ ?_); focus decide)
       | ((with_reducible refine cond_t ?_ ?_); focus (simp [ev]; done))
       | ((with_reducible refine cond_f ?_ ?_); focus (simp [ev]; done)))
      (with_reducible first | refine aops_c (rvalid_a f hf) Try.func52 (by kernel_rfl) (by kernel_rfl) ?_ ?_ ?_ | refine adraw_c (rvalid_a f hf) Try.func52 (by kernel_rfl) (by kernel_rfl) ?_ ?_ ?_)
      focus (simp [gate, hv]; done)
      focus (simp [pubCall, hv]; done)
      first | (with_reducible refine aops_run (by simp [List.replicate_succ, hv]; first | exact rfl | exact ⟨rfl, rfl⟩) ?_) | (with_reducible refine adraw_go (by simp [List.replicate_succ, hv]; first | exact rfl | exact ⟨rfl, rfl, rfl⟩) ?_)
      repeat (first
       | (with_reducible first | refine AW.seq ?_ | refine AW.block ?_ | refine aThen_n ?_ | refine aBlk_n ?_ | refine AW.ret ?_ | refine aThen_r ?_ | refine aBlk_r ?_ | refine aops_done ?_ | refine AW.skip ?_ | refine AW.exit ?_ | refine aThen_e ?_ | refine aBlk_hit ?_ | refine AW.label ?_ | refine AW.scope ?_ | refine aNg_n ?_ | refine aNg_r ?_ | refine aNg_e ?_)
       | ((with_reducible refine AW.region ?_); with_reducible refine aops_run (by simp [List.replicate_succ, h1]; first | exact rfl | exact ⟨rfl, rfl⟩) ?_)
       | ((with_reducible refine AW.draw mixedP ?_ ?_); (focus first | exact .inl rfl | exact .inr (by decide)); with_reducible refine adraw_go (by simp [List.replicate_succ, h1]; first | exact rfl | exact ⟨rfl, rfl, rfl⟩) ?_)
       | (with_reducible refine adraw_done (by kernel_rfl) ?_)
       | ((with_reducible refine aBlk_miss ?_ ?_); focus decide)
       | ((with_reducible refine cond_t ?_ ?_); focus (simp [ev, h1]; done))
       | ((with_reducible refine cond_f ?_ ?_); focus (simp [ev, h1]; done)))
      simp [aRet, ares, aresL, ares1, V.pub, V.pubs, ldV, Try.results62, errV, checkR, hv, h1]
    · by_cases h2 : 100 < p
      · refine AC.intro Try.func62 rfl ?_
        simp only [Try.ntmps62, List.map_cons, List.map_nil, List.length_cons, List.length_nil, Nat.reduceAdd, Nat.reduceSub, List.replicate_succ, List.replicate_zero, List.cons_append, List.nil_append]
        repeat (first
         | (with_reducible first | refine AW.seq ?_ | refine AW.block ?_ | refine aThen_n ?_ | refine aBlk_n ?_ | refine AW.ret ?_ | refine aThen_r ?_ | refine aBlk_r ?_ | refine aops_done ?_ | refine AW.skip ?_ | refine AW.exit ?_ | refine aThen_e ?_ | refine aBlk_hit ?_ | refine AW.label ?_ | refine AW.scope ?_ | refine aNg_n ?_ | refine aNg_r ?_ | refine aNg_e ?_)
         | ((with_reducible refine AW.region ?_); with_reducible refine aops_run (by simp [List.replicate_succ]; first | exact rfl | exact ⟨rfl, rfl⟩) ?_)
         | ((with_reducible refine AW.draw mixedP ?_ ?_); (focus first | exact .inl rfl | exact .inr (by decide)); with_reducible refine adraw_go (by simp [List.replicate_succ]; first | exact rfl | exact ⟨rfl, rfl, rfl⟩) ?_)
         | (with_reducible refine adraw_done (by kernel_rfl) ?_)
         | ((with_reducible refine aBlk_miss ?_ ?_); focus decide)
         | ((with_reducible refine cond_t ?_ ?_); focus (simp [ev]; done))
         | ((with_reducible refine cond_f ?_ ?_); focus (simp [ev]; done)))
        (with_reducible first | refine aops_c (rvalid_a f hf) Try.func52 (by kernel_rfl) (by kernel_rfl) ?_ ?_ ?_ | refine adraw_c (rvalid_a f hf) Try.func52 (by kernel_rfl) (by kernel_rfl) ?_ ?_ ?_)
        focus (simp [gate, hv]; done)
        focus (simp [pubCall, hv]; done)
        first | (with_reducible refine aops_run (by simp [List.replicate_succ, hv]; first | exact rfl | exact ⟨rfl, rfl⟩) ?_) | (with_reducible refine adraw_go (by simp [List.replicate_succ, hv]; first | exact rfl | exact ⟨rfl, rfl, rfl⟩) ?_)
        repeat (first
         | (with_reducible first | refine AW.seq ?_ | refine AW.block ?_ | refine aThen_n ?_ | refine aBlk_n ?_ | refine AW.ret ?_ | refine aThen_r ?_ | refine aBlk_r ?_ | refine aops_done ?_ | refine AW.skip ?_ | refine AW.exit ?_ | refine aThen_e ?_ | refine aBlk_hit ?_ | refine AW.label ?_ | refine AW.scope ?_ | refine aNg_n ?_ | refine aNg_r ?_ | refine aNg_e ?_)
         | ((with_reducible refine AW.region ?_); with_reducible refine aops_run (by simp [List.replicate_succ, h1, h2]; first | exact rfl | exact ⟨rfl, rfl⟩) ?_)
         | ((with_reducible refine AW.draw mixedP ?_ ?_); (focus first | exact .inl rfl | exact .inr (by decide)); with_reducible refine adraw_go (by simp [List.replicate_succ, h1, h2]; first | exact rfl | exact ⟨rfl, rfl, rfl⟩) ?_)
         | (with_reducible refine adraw_done (by kernel_rfl) ?_)
         | ((with_reducible refine aBlk_miss ?_ ?_); focus decide)
         | ((with_reducible refine cond_t ?_ ?_); focus (simp [ev, h1, h2]; done))
         | ((with_reducible refine cond_f ?_ ?_); focus (simp [ev, h1, h2]; done)))
        simp [aRet, ares, aresL, ares1, V.pub, V.pubs, ldV, Try.results62, errV, checkR, hv, h1, h2]
      · refine AC.intro Try.func62 rfl ?_
        simp only [Try.ntmps62, List.map_cons, List.map_nil, List.length_cons, List.length_nil, Nat.reduceAdd, Nat.reduceSub, List.replicate_succ, List.replicate_zero, List.cons_append, List.nil_append]
        repeat (first
         | (with_reducible first | refine AW.seq ?_ | refine AW.block ?_ | refine aThen_n ?_ | refine aBlk_n ?_ | refine AW.ret ?_ | refine aThen_r ?_ | refine aBlk_r ?_ | refine aops_done ?_ | refine AW.skip ?_ | refine AW.exit ?_ | refine aThen_e ?_ | refine aBlk_hit ?_ | refine AW.label ?_ | refine AW.scope ?_ | refine aNg_n ?_ | refine aNg_r ?_ | refine aNg_e ?_)
         | ((with_reducible refine AW.region ?_); with_reducible refine aops_run (by simp [List.replicate_succ]; first | exact rfl | exact ⟨rfl, rfl⟩) ?_)
         | ((with_reducible refine AW.draw mixedP ?_ ?_); (focus first | exact .inl rfl | exact .inr (by decide)); with_reducible refine adraw_go (by simp [List.replicate_succ]; first | exact rfl | exact ⟨rfl, rfl, rfl⟩) ?_)
         | (with_reducible refine adraw_done (by kernel_rfl) ?_)
         | ((with_reducible refine aBlk_miss ?_ ?_); focus decide)
         | ((with_reducible refine cond_t ?_ ?_); focus (simp [ev]; done))
         | ((with_reducible refine cond_f ?_ ?_); focus (simp [ev]; done)))
        (with_reducible first | refine aops_c (rvalid_a f hf) Try.func52 (by kernel_rfl) (by kernel_rfl) ?_ ?_ ?_ | refine adraw_c (rvalid_a f hf) Try.func52 (by kernel_rfl) (by kernel_rfl) ?_ ?_ ?_)
        focus (simp [gate, hv]; done)
        focus (simp [pubCall, hv]; done)
        first | (with_reducible refine aops_run (by simp [List.replicate_succ, hv]; first | exact rfl | exact ⟨rfl, rfl⟩) ?_) | (with_reducible refine adraw_go (by simp [List.replicate_succ, hv]; first | exact rfl | exact ⟨rfl, rfl, rfl⟩) ?_)
        repeat (first
         | (with_reducible first | refine AW.seq ?_ | refine AW.block ?_ | refine aThen_n ?_ | refine aBlk_n ?_ | refine AW.ret ?_ | refine aThen_r ?_ | refine aBlk_r ?_ | refine aops_done ?_ | refine AW.skip ?_ | refine AW.exit ?_ | refine aThen_e ?_ | refine aBlk_hit ?_ | refine AW.label ?_ | refine AW.scope ?_ | refine aNg_n ?_ | refine aNg_r ?_ | refine aNg_e ?_)
         | ((with_reducible refine AW.region ?_); with_reducible refine aops_run (by simp [List.replicate_succ, h1, h2]; first | exact rfl | exact ⟨rfl, rfl⟩) ?_)
         | ((with_reducible refine AW.draw mixedP ?_ ?_); (focus first | exact .inl rfl | exact .inr (by decide)); with_reducible refine adraw_go (by simp [List.replicate_succ, h1, h2]; first | exact rfl | exact ⟨rfl, rfl, rfl⟩) ?_)
         | (with_reducible refine adraw_done (by kernel_rfl) ?_)
         | ((with_reducible refine aBlk_miss ?_ ?_); focus decide)
         | ((with_reducible refine cond_t ?_ ?_); focus (simp [ev, h1, h2]; done))
         | ((with_reducible refine cond_f ?_ ?_); focus (simp [ev, h1, h2]; done)))
        simp [aRet, ares, aresL, ares1, V.pub, V.pubs, ldV, Try.results62, errV, checkR, hv, h1, h2]

theorem rsize_a (f : Font) (name : ByteArray) (p : Int) (hl : f.glyphs.length ≤ maxLen) : AC Try.prog 68 [.agg f.vs, .c (.str name), .c (.int .i64 p)] (boxV (sizedR f name p).1) := by
  have hc := sized_a f name p hl
  obtain ⟨q, hq⟩ : ∃ q, sizedR f name p = q := ⟨_, rfl⟩
  rw [hq] at hc ⊢
  obtain ⟨b, e⟩ := q
  obtain ⟨k, n, s, w, h, d, x, y, kids, o, src⟩ := b
  simp only [boxEV, boxV, errV, Box.row, List.map_cons, List.map_nil] at hc ⊢
  refine AC.intro Try.func68 rfl ?_
  simp only [Try.ntmps68, List.map_cons, List.map_nil, List.length_cons, List.length_nil, Nat.reduceAdd, Nat.reduceSub, List.replicate_succ, List.replicate_zero, List.cons_append, List.nil_append]
  repeat (first
   | (with_reducible first | refine AW.seq ?_ | refine AW.block ?_ | refine aThen_n ?_ | refine aBlk_n ?_ | refine AW.ret ?_ | refine aThen_r ?_ | refine aBlk_r ?_ | refine aops_done ?_ | refine AW.skip ?_ | refine AW.exit ?_ | refine aThen_e ?_ | refine aBlk_hit ?_ | refine AW.label ?_ | refine AW.scope ?_ | refine aNg_n ?_ | refine aNg_r ?_ | refine aNg_e ?_)
   | ((with_reducible refine AW.region ?_); with_reducible refine aops_run (by simp [List.replicate_succ]; first | exact rfl | exact ⟨rfl, rfl⟩) ?_)
   | ((with_reducible refine AW.draw mixedP ?_ ?_); (focus first | exact .inl rfl | exact .inr (by decide)); with_reducible refine adraw_go (by simp [List.replicate_succ]; first | exact rfl | exact ⟨rfl, rfl, rfl⟩) ?_)
   | (with_reducible refine adraw_done (by kernel_rfl) ?_)
   | ((with_reducible refine aBlk_miss ?_ ?_); focus decide)
   | ((with_reducible refine cond_t ?_ ?_); focus (simp [ev]; done))
   | ((with_reducible refine cond_f ?_ ?_); focus (simp [ev]; done)))
  (with_reducible first | refine aops_c (hc) Try.func111 (by kernel_rfl) (by kernel_rfl) ?_ ?_ ?_ | refine adraw_c (hc) Try.func111 (by kernel_rfl) (by kernel_rfl) ?_ ?_ ?_)
  focus (simp [gate]; done)
  focus (simp [pubCall]; done)
  first | (with_reducible refine aops_run (by simp [List.replicate_succ]; first | exact rfl | exact ⟨rfl, rfl⟩) ?_) | (with_reducible refine adraw_go (by simp [List.replicate_succ]; first | exact rfl | exact ⟨rfl, rfl, rfl⟩) ?_)
  repeat (first
   | (with_reducible first | refine AW.seq ?_ | refine AW.block ?_ | refine aThen_n ?_ | refine aBlk_n ?_ | refine AW.ret ?_ | refine aThen_r ?_ | refine aBlk_r ?_ | refine aops_done ?_ | refine AW.skip ?_ | refine AW.exit ?_ | refine aThen_e ?_ | refine aBlk_hit ?_ | refine AW.label ?_ | refine AW.scope ?_ | refine aNg_n ?_ | refine aNg_r ?_ | refine aNg_e ?_)
   | ((with_reducible refine AW.region ?_); with_reducible refine aops_run (by simp [List.replicate_succ]; first | exact rfl | exact ⟨rfl, rfl⟩) ?_)
   | ((with_reducible refine AW.draw mixedP ?_ ?_); (focus first | exact .inl rfl | exact .inr (by decide)); with_reducible refine adraw_go (by simp [List.replicate_succ]; first | exact rfl | exact ⟨rfl, rfl, rfl⟩) ?_)
   | (with_reducible refine adraw_done (by kernel_rfl) ?_)
   | ((with_reducible refine aBlk_miss ?_ ?_); focus decide)
   | ((with_reducible refine cond_t ?_ ?_); focus (simp [ev]; done))
   | ((with_reducible refine cond_f ?_ ?_); focus (simp [ev]; done)))
  simp [aRet, ares, aresL, ares1, V.pub, V.pubs, ldV, Try.results68]

theorem ris_a (f : Font) (name : ByteArray) (c : Choice) (hl : f.stretches.length ≤ maxLen) (hz : ∀ s ∈ f.stretches, s.sizes.length ≤ 1000) : AC Try.prog 67 [.agg f.vs, .c (.str name), choiceV c] (.c (.bool (isR f name c))) := by
  obtain ⟨cg, cr⟩ := c
  unfold choiceV
  cases hst : f.stretch name with
  | none =>
    have hR : isR f name ⟨cg, cr⟩ = (decide (cr = 0) && decide (cg = name)) := by unfold isR; rw [hst]
    by_cases h1 : cr = 0
    · subst h1
      refine AC.intro Try.func67 rfl ?_
      simp only [Try.ntmps67, List.map_cons, List.map_nil, List.length_cons, List.length_nil, Nat.reduceAdd, Nat.reduceSub, List.replicate_succ, List.replicate_zero, List.cons_append, List.nil_append]
      repeat (first
       | (with_reducible first | refine AW.seq ?_ | refine AW.block ?_ | refine aThen_n ?_ | refine aBlk_n ?_ | refine AW.ret ?_ | refine aThen_r ?_ | refine aBlk_r ?_ | refine aops_done ?_ | refine AW.skip ?_ | refine AW.exit ?_ | refine aThen_e ?_ | refine aBlk_hit ?_ | refine AW.label ?_ | refine AW.scope ?_ | refine aNg_n ?_ | refine aNg_r ?_ | refine aNg_e ?_)
       | ((with_reducible refine AW.region ?_); with_reducible refine aops_run (by simp [List.replicate_succ]; first | exact rfl | exact ⟨rfl, rfl⟩) ?_)
       | ((with_reducible refine AW.draw mixedP ?_ ?_); (focus first | exact .inl rfl | exact .inr (by decide)); with_reducible refine adraw_go (by simp [List.replicate_succ]; first | exact rfl | exact ⟨rfl, rfl, rfl⟩) ?_)
       | (with_reducible refine adraw_done (by kernel_rfl) ?_)
       | ((with_reducible refine aBlk_miss ?_ ?_); focus decide)
       | ((with_reducible refine cond_t ?_ ?_); focus (simp [ev]; done))
       | ((with_reducible refine cond_f ?_ ?_); focus (simp [ev]; done)))
      (with_reducible first | refine aops_c (rstretch_a f name hl) Try.func33 (by kernel_rfl) (by kernel_rfl) ?_ ?_ ?_ | refine adraw_c (rstretch_a f name hl) Try.func33 (by kernel_rfl) (by kernel_rfl) ?_ ?_ ?_)
      focus (simp [gate, foundS, stretchV, Stretch.row, hst, Stretch.zero]; done)
      focus (simp [pubCall, foundS, stretchV, Stretch.row, hst, Stretch.zero]; done)
      first | (with_reducible refine aops_run (by simp [List.replicate_succ, foundS, stretchV, Stretch.row, hst, Stretch.zero]; first | exact rfl | exact ⟨rfl, rfl⟩) ?_) | (with_reducible refine adraw_go (by simp [List.replicate_succ, foundS, stretchV, Stretch.row, hst, Stretch.zero]; first | exact rfl | exact ⟨rfl, rfl, rfl⟩) ?_)
      repeat (first
       | (with_reducible first | refine AW.seq ?_ | refine AW.block ?_ | refine aThen_n ?_ | refine aBlk_n ?_ | refine AW.ret ?_ | refine aThen_r ?_ | refine aBlk_r ?_ | refine aops_done ?_ | refine AW.skip ?_ | refine AW.exit ?_ | refine aThen_e ?_ | refine aBlk_hit ?_ | refine AW.label ?_ | refine AW.scope ?_ | refine aNg_n ?_ | refine aNg_r ?_ | refine aNg_e ?_)
       | ((with_reducible refine AW.region ?_); with_reducible refine aops_run (by simp [List.replicate_succ]; first | exact rfl | exact ⟨rfl, rfl⟩) ?_)
       | ((with_reducible refine AW.draw mixedP ?_ ?_); (focus first | exact .inl rfl | exact .inr (by decide)); with_reducible refine adraw_go (by simp [List.replicate_succ]; first | exact rfl | exact ⟨rfl, rfl, rfl⟩) ?_)
       | (with_reducible refine adraw_done (by kernel_rfl) ?_)
       | ((with_reducible refine aBlk_miss ?_ ?_); focus decide)
       | ((with_reducible refine cond_t ?_ ?_); focus (simp [ev]; done))
       | ((with_reducible refine cond_f ?_ ?_); focus (simp [ev]; done)))
      simp [aRet, ares, aresL, ares1, V.pub, V.pubs, ldV, Try.results67, hR]
    · refine AC.intro Try.func67 rfl ?_
      simp only [Try.ntmps67, List.map_cons, List.map_nil, List.length_cons, List.length_nil, Nat.reduceAdd, Nat.reduceSub, List.replicate_succ, List.replicate_zero, List.cons_append, List.nil_append]
      repeat (first
       | (with_reducible first | refine AW.seq ?_ | refine AW.block ?_ | refine aThen_n ?_ | refine aBlk_n ?_ | refine AW.ret ?_ | refine aThen_r ?_ | refine aBlk_r ?_ | refine aops_done ?_ | refine AW.skip ?_ | refine AW.exit ?_ | refine aThen_e ?_ | refine aBlk_hit ?_ | refine AW.label ?_ | refine AW.scope ?_ | refine aNg_n ?_ | refine aNg_r ?_ | refine aNg_e ?_)
       | ((with_reducible refine AW.region ?_); with_reducible refine aops_run (by simp [List.replicate_succ]; first | exact rfl | exact ⟨rfl, rfl⟩) ?_)
       | ((with_reducible refine AW.draw mixedP ?_ ?_); (focus first | exact .inl rfl | exact .inr (by decide)); with_reducible refine adraw_go (by simp [List.replicate_succ]; first | exact rfl | exact ⟨rfl, rfl, rfl⟩) ?_)
       | (with_reducible refine adraw_done (by kernel_rfl) ?_)
       | ((with_reducible refine aBlk_miss ?_ ?_); focus decide)
       | ((with_reducible refine cond_t ?_ ?_); focus (simp [ev]; done))
       | ((with_reducible refine cond_f ?_ ?_); focus (simp [ev]; done)))
      (with_reducible first | refine aops_c (rstretch_a f name hl) Try.func33 (by kernel_rfl) (by kernel_rfl) ?_ ?_ ?_ | refine adraw_c (rstretch_a f name hl) Try.func33 (by kernel_rfl) (by kernel_rfl) ?_ ?_ ?_)
      focus (simp [gate, foundS, stretchV, Stretch.row, hst, Stretch.zero]; done)
      focus (simp [pubCall, foundS, stretchV, Stretch.row, hst, Stretch.zero]; done)
      first | (with_reducible refine aops_run (by simp [List.replicate_succ, foundS, stretchV, Stretch.row, hst, Stretch.zero]; first | exact rfl | exact ⟨rfl, rfl⟩) ?_) | (with_reducible refine adraw_go (by simp [List.replicate_succ, foundS, stretchV, Stretch.row, hst, Stretch.zero]; first | exact rfl | exact ⟨rfl, rfl, rfl⟩) ?_)
      repeat (first
       | (with_reducible first | refine AW.seq ?_ | refine AW.block ?_ | refine aThen_n ?_ | refine aBlk_n ?_ | refine AW.ret ?_ | refine aThen_r ?_ | refine aBlk_r ?_ | refine aops_done ?_ | refine AW.skip ?_ | refine AW.exit ?_ | refine aThen_e ?_ | refine aBlk_hit ?_ | refine AW.label ?_ | refine AW.scope ?_ | refine aNg_n ?_ | refine aNg_r ?_ | refine aNg_e ?_)
       | ((with_reducible refine AW.region ?_); with_reducible refine aops_run (by simp [List.replicate_succ, h1]; first | exact rfl | exact ⟨rfl, rfl⟩) ?_)
       | ((with_reducible refine AW.draw mixedP ?_ ?_); (focus first | exact .inl rfl | exact .inr (by decide)); with_reducible refine adraw_go (by simp [List.replicate_succ, h1]; first | exact rfl | exact ⟨rfl, rfl, rfl⟩) ?_)
       | (with_reducible refine adraw_done (by kernel_rfl) ?_)
       | ((with_reducible refine aBlk_miss ?_ ?_); focus decide)
       | ((with_reducible refine cond_t ?_ ?_); focus (simp [ev, h1]; done))
       | ((with_reducible refine cond_f ?_ ?_); focus (simp [ev, h1]; done)))
      simp [aRet, ares, aresL, ares1, V.pub, V.pubs, ldV, Try.results67, hR, h1]
  | some s =>
    have hsl := hz s (stretchO_mem hst).1
    have hR : isR f name ⟨cg, cr⟩ = if cr = 0 then hasS cg s.sizes else decide (cg = ⟨#[]⟩) && (decide (0 < s.parts.length) && (decide (1 ≤ cr) && decide (cr ≤ 1000))) := by unfold isR; rw [hst]
    by_cases h1 : cr = 0
    · rw [if_pos h1] at hR
      subst h1
      refine AC.intro Try.func67 rfl ?_
      simp only [Try.ntmps67, List.map_cons, List.map_nil, List.length_cons, List.length_nil, Nat.reduceAdd, Nat.reduceSub, List.replicate_succ, List.replicate_zero, List.cons_append, List.nil_append]
      repeat (first
       | (with_reducible first | refine AW.seq ?_ | refine AW.block ?_ | refine aThen_n ?_ | refine aBlk_n ?_ | refine AW.ret ?_ | refine aThen_r ?_ | refine aBlk_r ?_ | refine aops_done ?_ | refine AW.skip ?_ | refine AW.exit ?_ | refine aThen_e ?_ | refine aBlk_hit ?_ | refine AW.label ?_ | refine AW.scope ?_ | refine aNg_n ?_ | refine aNg_r ?_ | refine aNg_e ?_)
       | ((with_reducible refine AW.region ?_); with_reducible refine aops_run (by simp [List.replicate_succ]; first | exact rfl | exact ⟨rfl, rfl⟩) ?_)
       | ((with_reducible refine AW.draw mixedP ?_ ?_); (focus first | exact .inl rfl | exact .inr (by decide)); with_reducible refine adraw_go (by simp [List.replicate_succ]; first | exact rfl | exact ⟨rfl, rfl, rfl⟩) ?_)
       | (with_reducible refine adraw_done (by kernel_rfl) ?_)
       | ((with_reducible refine aBlk_miss ?_ ?_); focus decide)
       | ((with_reducible refine cond_t ?_ ?_); focus (simp [ev]; done))
       | ((with_reducible refine cond_f ?_ ?_); focus (simp [ev]; done)))
      (with_reducible first | refine aops_c (rstretch_a f name hl) Try.func33 (by kernel_rfl) (by kernel_rfl) ?_ ?_ ?_ | refine adraw_c (rstretch_a f name hl) Try.func33 (by kernel_rfl) (by kernel_rfl) ?_ ?_ ?_)
      focus (simp [gate, foundS, stretchV, Stretch.row, hst]; done)
      focus (simp [pubCall, foundS, stretchV, Stretch.row, hst]; done)
      first | (with_reducible refine aops_run (by simp [List.replicate_succ, foundS, stretchV, Stretch.row, hst]; first | exact rfl | exact ⟨rfl, rfl⟩) ?_) | (with_reducible refine adraw_go (by simp [List.replicate_succ, foundS, stretchV, Stretch.row, hst]; first | exact rfl | exact ⟨rfl, rfl, rfl⟩) ?_)
      repeat (first
       | (with_reducible first | refine AW.seq ?_ | refine AW.block ?_ | refine aThen_n ?_ | refine aBlk_n ?_ | refine AW.ret ?_ | refine aThen_r ?_ | refine aBlk_r ?_ | refine aops_done ?_ | refine AW.skip ?_ | refine AW.exit ?_ | refine aThen_e ?_ | refine aBlk_hit ?_ | refine AW.label ?_ | refine AW.scope ?_ | refine aNg_n ?_ | refine aNg_r ?_ | refine aNg_e ?_)
       | ((with_reducible refine AW.region ?_); with_reducible refine aops_run (by simp [List.replicate_succ]; first | exact rfl | exact ⟨rfl, rfl⟩) ?_)
       | ((with_reducible refine AW.draw mixedP ?_ ?_); (focus first | exact .inl rfl | exact .inr (by decide)); with_reducible refine adraw_go (by simp [List.replicate_succ]; first | exact rfl | exact ⟨rfl, rfl, rfl⟩) ?_)
       | (with_reducible refine adraw_done (by kernel_rfl) ?_)
       | ((with_reducible refine aBlk_miss ?_ ?_); focus decide)
       | ((with_reducible refine cond_t ?_ ?_); focus (simp [ev]; done))
       | ((with_reducible refine cond_f ?_ ?_); focus (simp [ev]; done)))
      refine AW.loopH (ι := { k : Nat // k ≤ s.sizes.length ∧ hasS cg s.sizes = hasS cg (s.sizes.drop k) }) (fun k => [(9, .c (.int .i64 (k.1 : Int))), (6, .c (.bool false))]) (fun _ => [.box 27 f.vs false, .box 36 [.c (.str cg), .c (.int .i64 0)] false, .box 59 (s.row.map V.c) false]) (fun k => s.sizes.length - k.1) ⟨0, by simp⟩ _ (by simp only [wr, wrOps, List.cons_append, List.nil_append, List.append_nil, List.append_assoc]; exact rfl) _ (by simp only [havoc, List.foldl_cons, List.foldl_nil, List.set_cons_zero, List.set_cons_succ]; exact rfl) ?_ ?_
      all_goals simp only [puts, List.foldl_cons, List.foldl_nil, List.set_cons_zero, List.set_cons_succ]
      · refine Le.weak (by simp [subT, Stretch.row])
      · rintro ⟨k, hk, hI⟩
        by_cases hlt : k < s.sizes.length
        · obtain ⟨n, hn⟩ : ∃ n, s.sizes[k] = n := ⟨_, rfl⟩
          rw [List.drop_eq_getElem_cons hlt, hn] at hI
          simp only [hasS] at hI
          by_cases he : n = cg
          · rw [if_pos he] at hI
            rw [hI] at hR
            repeat (first
             | (with_reducible first | refine AW.seq ?_ | refine AW.block ?_ | refine aThen_n ?_ | refine aBlk_n ?_ | refine AW.ret ?_ | refine aThen_r ?_ | refine aBlk_r ?_ | refine aops_done ?_ | refine AW.skip ?_ | refine AW.exit ?_ | refine aThen_e ?_ | refine aBlk_hit ?_ | refine AW.label ?_ | refine AW.scope ?_ | refine aNg_n ?_ | refine aNg_r ?_ | refine aNg_e ?_)
             | ((with_reducible refine AW.region ?_); with_reducible refine aops_run (by simp [List.replicate_succ, hlt, hn, he, Stretch.row, sizesC]; first | exact rfl | exact ⟨rfl, rfl⟩) ?_)
             | ((with_reducible refine AW.draw mixedP ?_ ?_); (focus first | exact .inl rfl | exact .inr (by decide)); with_reducible refine adraw_go (by simp [List.replicate_succ, hlt, hn, he, Stretch.row, sizesC]; first | exact rfl | exact ⟨rfl, rfl, rfl⟩) ?_)
             | (with_reducible refine adraw_done (by kernel_rfl) ?_)
             | ((with_reducible refine aBlk_miss ?_ ?_); focus decide)
             | ((with_reducible refine cond_t ?_ ?_); focus (simp [ev, hlt, hn, he, Stretch.row, sizesC]; done))
             | ((with_reducible refine cond_f ?_ ?_); focus (simp [ev, hlt, hn, he, Stretch.row, sizesC]; done)))
            simp [aRet, ares, aresL, ares1, V.pub, V.pubs, ldV, Try.results67, hR]
          · rw [if_neg he] at hI
            have hw : IntKind.i64.wrap ((k : Int) + 1) = ((k + 1 : Nat) : Int) := by rw [wrap_i64 (by omega) (by omega)]; simp
            repeat (first
             | (with_reducible first | refine AW.seq ?_ | refine AW.block ?_ | refine aThen_n ?_ | refine aBlk_n ?_ | refine AW.ret ?_ | refine aThen_r ?_ | refine aBlk_r ?_ | refine aops_done ?_ | refine AW.skip ?_ | refine AW.exit ?_ | refine aThen_e ?_ | refine aBlk_hit ?_ | refine AW.label ?_ | refine AW.scope ?_ | refine aNg_n ?_ | refine aNg_r ?_ | refine aNg_e ?_)
             | ((with_reducible refine AW.region ?_); with_reducible refine aops_run (by simp [List.replicate_succ, hlt, hn, he, Stretch.row, sizesC, hw]; first | exact rfl | exact ⟨rfl, rfl⟩) ?_)
             | ((with_reducible refine AW.draw mixedP ?_ ?_); (focus first | exact .inl rfl | exact .inr (by decide)); with_reducible refine adraw_go (by simp [List.replicate_succ, hlt, hn, he, Stretch.row, sizesC, hw]; first | exact rfl | exact ⟨rfl, rfl, rfl⟩) ?_)
             | (with_reducible refine adraw_done (by kernel_rfl) ?_)
             | ((with_reducible refine aBlk_miss ?_ ?_); focus decide)
             | ((with_reducible refine cond_t ?_ ?_); focus (simp [ev, hlt, hn, he, Stretch.row, sizesC, hw]; done))
             | ((with_reducible refine cond_f ?_ ?_); focus (simp [ev, hlt, hn, he, Stretch.row, sizesC, hw]; done)))
            refine ⟨⟨k + 1, by omega, hI⟩, by simp only; omega, ?_⟩
            refine Le.weak (by simp [subT, Stretch.row, sizesC])
        · have e : hasS cg s.sizes = false := by rw [hI, List.drop_of_length_le (by omega)]; rfl
          rw [e] at hR
          repeat (first
           | (with_reducible first | refine AW.seq ?_ | refine AW.block ?_ | refine aThen_n ?_ | refine aBlk_n ?_ | refine AW.ret ?_ | refine aThen_r ?_ | refine aBlk_r ?_ | refine aops_done ?_ | refine AW.skip ?_ | refine AW.exit ?_ | refine aThen_e ?_ | refine aBlk_hit ?_ | refine AW.label ?_ | refine AW.scope ?_ | refine aNg_n ?_ | refine aNg_r ?_ | refine aNg_e ?_)
           | ((with_reducible refine AW.region ?_); with_reducible refine aops_run (by simp [List.replicate_succ, hlt, Stretch.row, sizesC]; first | exact rfl | exact ⟨rfl, rfl⟩) ?_)
           | ((with_reducible refine AW.draw mixedP ?_ ?_); (focus first | exact .inl rfl | exact .inr (by decide)); with_reducible refine adraw_go (by simp [List.replicate_succ, hlt, Stretch.row, sizesC]; first | exact rfl | exact ⟨rfl, rfl, rfl⟩) ?_)
           | (with_reducible refine adraw_done (by kernel_rfl) ?_)
           | ((with_reducible refine aBlk_miss ?_ ?_); focus decide)
           | ((with_reducible refine cond_t ?_ ?_); focus (simp [ev, hlt, Stretch.row, sizesC]; done))
           | ((with_reducible refine cond_f ?_ ?_); focus (simp [ev, hlt, Stretch.row, sizesC]; done)))
          simp [aRet, ares, aresL, ares1, V.pub, V.pubs, ldV, Try.results67, hR]
    · rw [if_neg h1] at hR
      by_cases h2 : cg = ⟨#[]⟩
      · subst h2
        by_cases h3 : (0 : Int) < (s.parts.length : Int)
        · have h3' : 0 < s.parts.length := by omega
          by_cases h4 : 1 ≤ cr
          · refine AC.intro Try.func67 rfl ?_
            simp only [Try.ntmps67, List.map_cons, List.map_nil, List.length_cons, List.length_nil, Nat.reduceAdd, Nat.reduceSub, List.replicate_succ, List.replicate_zero, List.cons_append, List.nil_append]
            repeat (first
             | (with_reducible first | refine AW.seq ?_ | refine AW.block ?_ | refine aThen_n ?_ | refine aBlk_n ?_ | refine AW.ret ?_ | refine aThen_r ?_ | refine aBlk_r ?_ | refine aops_done ?_ | refine AW.skip ?_ | refine AW.exit ?_ | refine aThen_e ?_ | refine aBlk_hit ?_ | refine AW.label ?_ | refine AW.scope ?_ | refine aNg_n ?_ | refine aNg_r ?_ | refine aNg_e ?_)
             | ((with_reducible refine AW.region ?_); with_reducible refine aops_run (by simp [List.replicate_succ]; first | exact rfl | exact ⟨rfl, rfl⟩) ?_)
             | ((with_reducible refine AW.draw mixedP ?_ ?_); (focus first | exact .inl rfl | exact .inr (by decide)); with_reducible refine adraw_go (by simp [List.replicate_succ]; first | exact rfl | exact ⟨rfl, rfl, rfl⟩) ?_)
             | (with_reducible refine adraw_done (by kernel_rfl) ?_)
             | ((with_reducible refine aBlk_miss ?_ ?_); focus decide)
             | ((with_reducible refine cond_t ?_ ?_); focus (simp [ev]; done))
             | ((with_reducible refine cond_f ?_ ?_); focus (simp [ev]; done)))
            (with_reducible first | refine aops_c (rstretch_a f name hl) Try.func33 (by kernel_rfl) (by kernel_rfl) ?_ ?_ ?_ | refine adraw_c (rstretch_a f name hl) Try.func33 (by kernel_rfl) (by kernel_rfl) ?_ ?_ ?_)
            focus (simp [gate, foundS, stretchV, Stretch.row, hst]; done)
            focus (simp [pubCall, foundS, stretchV, Stretch.row, hst]; done)
            first | (with_reducible refine aops_run (by simp [List.replicate_succ, foundS, stretchV, Stretch.row, hst]; first | exact rfl | exact ⟨rfl, rfl⟩) ?_) | (with_reducible refine adraw_go (by simp [List.replicate_succ, foundS, stretchV, Stretch.row, hst]; first | exact rfl | exact ⟨rfl, rfl, rfl⟩) ?_)
            repeat (first
             | (with_reducible first | refine AW.seq ?_ | refine AW.block ?_ | refine aThen_n ?_ | refine aBlk_n ?_ | refine AW.ret ?_ | refine aThen_r ?_ | refine aBlk_r ?_ | refine aops_done ?_ | refine AW.skip ?_ | refine AW.exit ?_ | refine aThen_e ?_ | refine aBlk_hit ?_ | refine AW.label ?_ | refine AW.scope ?_ | refine aNg_n ?_ | refine aNg_r ?_ | refine aNg_e ?_)
             | ((with_reducible refine AW.region ?_); with_reducible refine aops_run (by simp [List.replicate_succ, h1, h3, h3', h4, partsC]; first | exact rfl | exact ⟨rfl, rfl⟩) ?_)
             | ((with_reducible refine AW.draw mixedP ?_ ?_); (focus first | exact .inl rfl | exact .inr (by decide)); with_reducible refine adraw_go (by simp [List.replicate_succ, h1, h3, h3', h4, partsC]; first | exact rfl | exact ⟨rfl, rfl, rfl⟩) ?_)
             | (with_reducible refine adraw_done (by kernel_rfl) ?_)
             | ((with_reducible refine aBlk_miss ?_ ?_); focus decide)
             | ((with_reducible refine cond_t ?_ ?_); focus (simp [ev, h1, h3, h3', h4, partsC]; done))
             | ((with_reducible refine cond_f ?_ ?_); focus (simp [ev, h1, h3, h3', h4, partsC]; done)))
            simp [aRet, ares, aresL, ares1, V.pub, V.pubs, ldV, Try.results67, hR, h3', h4]
          · refine AC.intro Try.func67 rfl ?_
            simp only [Try.ntmps67, List.map_cons, List.map_nil, List.length_cons, List.length_nil, Nat.reduceAdd, Nat.reduceSub, List.replicate_succ, List.replicate_zero, List.cons_append, List.nil_append]
            repeat (first
             | (with_reducible first | refine AW.seq ?_ | refine AW.block ?_ | refine aThen_n ?_ | refine aBlk_n ?_ | refine AW.ret ?_ | refine aThen_r ?_ | refine aBlk_r ?_ | refine aops_done ?_ | refine AW.skip ?_ | refine AW.exit ?_ | refine aThen_e ?_ | refine aBlk_hit ?_ | refine AW.label ?_ | refine AW.scope ?_ | refine aNg_n ?_ | refine aNg_r ?_ | refine aNg_e ?_)
             | ((with_reducible refine AW.region ?_); with_reducible refine aops_run (by simp [List.replicate_succ]; first | exact rfl | exact ⟨rfl, rfl⟩) ?_)
             | ((with_reducible refine AW.draw mixedP ?_ ?_); (focus first | exact .inl rfl | exact .inr (by decide)); with_reducible refine adraw_go (by simp [List.replicate_succ]; first | exact rfl | exact ⟨rfl, rfl, rfl⟩) ?_)
             | (with_reducible refine adraw_done (by kernel_rfl) ?_)
             | ((with_reducible refine aBlk_miss ?_ ?_); focus decide)
             | ((with_reducible refine cond_t ?_ ?_); focus (simp [ev]; done))
             | ((with_reducible refine cond_f ?_ ?_); focus (simp [ev]; done)))
            (with_reducible first | refine aops_c (rstretch_a f name hl) Try.func33 (by kernel_rfl) (by kernel_rfl) ?_ ?_ ?_ | refine adraw_c (rstretch_a f name hl) Try.func33 (by kernel_rfl) (by kernel_rfl) ?_ ?_ ?_)
            focus (simp [gate, foundS, stretchV, Stretch.row, hst]; done)
            focus (simp [pubCall, foundS, stretchV, Stretch.row, hst]; done)
            first | (with_reducible refine aops_run (by simp [List.replicate_succ, foundS, stretchV, Stretch.row, hst]; first | exact rfl | exact ⟨rfl, rfl⟩) ?_) | (with_reducible refine adraw_go (by simp [List.replicate_succ, foundS, stretchV, Stretch.row, hst]; first | exact rfl | exact ⟨rfl, rfl, rfl⟩) ?_)
            repeat (first
             | (with_reducible first | refine AW.seq ?_ | refine AW.block ?_ | refine aThen_n ?_ | refine aBlk_n ?_ | refine AW.ret ?_ | refine aThen_r ?_ | refine aBlk_r ?_ | refine aops_done ?_ | refine AW.skip ?_ | refine AW.exit ?_ | refine aThen_e ?_ | refine aBlk_hit ?_ | refine AW.label ?_ | refine AW.scope ?_ | refine aNg_n ?_ | refine aNg_r ?_ | refine aNg_e ?_)
             | ((with_reducible refine AW.region ?_); with_reducible refine aops_run (by simp [List.replicate_succ, h1, h3, h3', h4, partsC]; first | exact rfl | exact ⟨rfl, rfl⟩) ?_)
             | ((with_reducible refine AW.draw mixedP ?_ ?_); (focus first | exact .inl rfl | exact .inr (by decide)); with_reducible refine adraw_go (by simp [List.replicate_succ, h1, h3, h3', h4, partsC]; first | exact rfl | exact ⟨rfl, rfl, rfl⟩) ?_)
             | (with_reducible refine adraw_done (by kernel_rfl) ?_)
             | ((with_reducible refine aBlk_miss ?_ ?_); focus decide)
             | ((with_reducible refine cond_t ?_ ?_); focus (simp [ev, h1, h3, h3', h4, partsC]; done))
             | ((with_reducible refine cond_f ?_ ?_); focus (simp [ev, h1, h3, h3', h4, partsC]; done)))
            simp [aRet, ares, aresL, ares1, V.pub, V.pubs, ldV, Try.results67, hR, h3', h4]
        · have h3' : ¬ 0 < s.parts.length := by omega
          have h3'' : s.parts = [] := List.eq_nil_of_length_eq_zero (by omega)
          refine AC.intro Try.func67 rfl ?_
          simp only [Try.ntmps67, List.map_cons, List.map_nil, List.length_cons, List.length_nil, Nat.reduceAdd, Nat.reduceSub, List.replicate_succ, List.replicate_zero, List.cons_append, List.nil_append]
          repeat (first
           | (with_reducible first | refine AW.seq ?_ | refine AW.block ?_ | refine aThen_n ?_ | refine aBlk_n ?_ | refine AW.ret ?_ | refine aThen_r ?_ | refine aBlk_r ?_ | refine aops_done ?_ | refine AW.skip ?_ | refine AW.exit ?_ | refine aThen_e ?_ | refine aBlk_hit ?_ | refine AW.label ?_ | refine AW.scope ?_ | refine aNg_n ?_ | refine aNg_r ?_ | refine aNg_e ?_)
           | ((with_reducible refine AW.region ?_); with_reducible refine aops_run (by simp [List.replicate_succ]; first | exact rfl | exact ⟨rfl, rfl⟩) ?_)
           | ((with_reducible refine AW.draw mixedP ?_ ?_); (focus first | exact .inl rfl | exact .inr (by decide)); with_reducible refine adraw_go (by simp [List.replicate_succ]; first | exact rfl | exact ⟨rfl, rfl, rfl⟩) ?_)
           | (with_reducible refine adraw_done (by kernel_rfl) ?_)
           | ((with_reducible refine aBlk_miss ?_ ?_); focus decide)
           | ((with_reducible refine cond_t ?_ ?_); focus (simp [ev]; done))
           | ((with_reducible refine cond_f ?_ ?_); focus (simp [ev]; done)))
          (with_reducible first | refine aops_c (rstretch_a f name hl) Try.func33 (by kernel_rfl) (by kernel_rfl) ?_ ?_ ?_ | refine adraw_c (rstretch_a f name hl) Try.func33 (by kernel_rfl) (by kernel_rfl) ?_ ?_ ?_)
          focus (simp [gate, foundS, stretchV, Stretch.row, hst]; done)
          focus (simp [pubCall, foundS, stretchV, Stretch.row, hst]; done)
          first | (with_reducible refine aops_run (by simp [List.replicate_succ, foundS, stretchV, Stretch.row, hst]; first | exact rfl | exact ⟨rfl, rfl⟩) ?_) | (with_reducible refine adraw_go (by simp [List.replicate_succ, foundS, stretchV, Stretch.row, hst]; first | exact rfl | exact ⟨rfl, rfl, rfl⟩) ?_)
          repeat (first
           | (with_reducible first | refine AW.seq ?_ | refine AW.block ?_ | refine aThen_n ?_ | refine aBlk_n ?_ | refine AW.ret ?_ | refine aThen_r ?_ | refine aBlk_r ?_ | refine aops_done ?_ | refine AW.skip ?_ | refine AW.exit ?_ | refine aThen_e ?_ | refine aBlk_hit ?_ | refine AW.label ?_ | refine AW.scope ?_ | refine aNg_n ?_ | refine aNg_r ?_ | refine aNg_e ?_)
           | ((with_reducible refine AW.region ?_); with_reducible refine aops_run (by simp [List.replicate_succ, h1, h3'', partsC]; first | exact rfl | exact ⟨rfl, rfl⟩) ?_)
           | ((with_reducible refine AW.draw mixedP ?_ ?_); (focus first | exact .inl rfl | exact .inr (by decide)); with_reducible refine adraw_go (by simp [List.replicate_succ, h1, h3'', partsC]; first | exact rfl | exact ⟨rfl, rfl, rfl⟩) ?_)
           | (with_reducible refine adraw_done (by kernel_rfl) ?_)
           | ((with_reducible refine aBlk_miss ?_ ?_); focus decide)
           | ((with_reducible refine cond_t ?_ ?_); focus (simp [ev, h1, h3'', partsC]; done))
           | ((with_reducible refine cond_f ?_ ?_); focus (simp [ev, h1, h3'', partsC]; done)))
          simp [aRet, ares, aresL, ares1, V.pub, V.pubs, ldV, Try.results67, hR, h3'']
      · refine AC.intro Try.func67 rfl ?_
        simp only [Try.ntmps67, List.map_cons, List.map_nil, List.length_cons, List.length_nil, Nat.reduceAdd, Nat.reduceSub, List.replicate_succ, List.replicate_zero, List.cons_append, List.nil_append]
        repeat (first
         | (with_reducible first | refine AW.seq ?_ | refine AW.block ?_ | refine aThen_n ?_ | refine aBlk_n ?_ | refine AW.ret ?_ | refine aThen_r ?_ | refine aBlk_r ?_ | refine aops_done ?_ | refine AW.skip ?_ | refine AW.exit ?_ | refine aThen_e ?_ | refine aBlk_hit ?_ | refine AW.label ?_ | refine AW.scope ?_ | refine aNg_n ?_ | refine aNg_r ?_ | refine aNg_e ?_)
         | ((with_reducible refine AW.region ?_); with_reducible refine aops_run (by simp [List.replicate_succ]; first | exact rfl | exact ⟨rfl, rfl⟩) ?_)
         | ((with_reducible refine AW.draw mixedP ?_ ?_); (focus first | exact .inl rfl | exact .inr (by decide)); with_reducible refine adraw_go (by simp [List.replicate_succ]; first | exact rfl | exact ⟨rfl, rfl, rfl⟩) ?_)
         | (with_reducible refine adraw_done (by kernel_rfl) ?_)
         | ((with_reducible refine aBlk_miss ?_ ?_); focus decide)
         | ((with_reducible refine cond_t ?_ ?_); focus (simp [ev]; done))
         | ((with_reducible refine cond_f ?_ ?_); focus (simp [ev]; done)))
        (with_reducible first | refine aops_c (rstretch_a f name hl) Try.func33 (by kernel_rfl) (by kernel_rfl) ?_ ?_ ?_ | refine adraw_c (rstretch_a f name hl) Try.func33 (by kernel_rfl) (by kernel_rfl) ?_ ?_ ?_)
        focus (simp [gate, foundS, stretchV, Stretch.row, hst]; done)
        focus (simp [pubCall, foundS, stretchV, Stretch.row, hst]; done)
        first | (with_reducible refine aops_run (by simp [List.replicate_succ, foundS, stretchV, Stretch.row, hst]; first | exact rfl | exact ⟨rfl, rfl⟩) ?_) | (with_reducible refine adraw_go (by simp [List.replicate_succ, foundS, stretchV, Stretch.row, hst]; first | exact rfl | exact ⟨rfl, rfl, rfl⟩) ?_)
        repeat (first
         | (with_reducible first | refine AW.seq ?_ | refine AW.block ?_ | refine aThen_n ?_ | refine aBlk_n ?_ | refine AW.ret ?_ | refine aThen_r ?_ | refine aBlk_r ?_ | refine aops_done ?_ | refine AW.skip ?_ | refine AW.exit ?_ | refine aThen_e ?_ | refine aBlk_hit ?_ | refine AW.label ?_ | refine AW.scope ?_ | refine aNg_n ?_ | refine aNg_r ?_ | refine aNg_e ?_)
         | ((with_reducible refine AW.region ?_); with_reducible refine aops_run (by simp [List.replicate_succ, h1, h2]; first | exact rfl | exact ⟨rfl, rfl⟩) ?_)
         | ((with_reducible refine AW.draw mixedP ?_ ?_); (focus first | exact .inl rfl | exact .inr (by decide)); with_reducible refine adraw_go (by simp [List.replicate_succ, h1, h2]; first | exact rfl | exact ⟨rfl, rfl, rfl⟩) ?_)
         | (with_reducible refine adraw_done (by kernel_rfl) ?_)
         | ((with_reducible refine aBlk_miss ?_ ?_); focus decide)
         | ((with_reducible refine cond_t ?_ ?_); focus (simp [ev, h1, h2]; done))
         | ((with_reducible refine cond_f ?_ ?_); focus (simp [ev, h1, h2]; done)))
        simp [aRet, ares, aresL, ares1, V.pub, V.pubs, ldV, Try.results67, hR, h2]

/-- the parts of a stretch of a valid font are glyphs of it -/
theorem parts_found {f : Font} (hv : f.valid = true) {s : Stretch} (hs : s ∈ f.stretches) : ∀ q ∈ s.parts, ∃ g, f.find q.name = some g := by
  have h := valid_stretches hv s hs
  simp only [stretchOk, Bool.and_eq_true] at h
  obtain ⟨⟨_, _, _⟩, _, h4⟩ := h
  intro q hq
  have hp : ¬ s.parts = [] := fun e => by rw [e] at hq; cases hq
  rw [if_neg hp] at h4
  unfold partsOk at h4
  cases hf : partsFold f.ht 60000 false s.parts with
  | none => rw [hf] at h4; cases h4
  | some x =>
    obtain ⟨b, e⟩ := x
    obtain ⟨_, hall⟩ := partsFold_le _ _ _ _ _ _ hf
    obtain ⟨h, hh, _⟩ := hall q hq
    simp only [Font.ht, Option.map_eq_some_iff] at hh
    obtain ⟨g, hg, _⟩ := hh
    exact ⟨g, hg⟩
theorem pick_found {f : Font} {name : ByteArray} {g : Glyph} (h : f.find name = some g) : f.pick name = g := by simp [Font.pick, h]
theorem times_bound {r : Int} (h1 : 1 ≤ r) (h2 : r ≤ 1000) (q : Part) : 1 ≤ times r q ∧ times r q ≤ 1000 := by unfold times; split <;> omega

set_option maxHeartbeats 3200000 in
theorem rTall_a (f : Font) (s : Stretch) (r : Int) (hf : f.Fit) (hv : f.valid = true) (hs : s ∈ f.stretches) (hr1 : 1 ≤ r) (hr2 : r ≤ 1000) (hp : s.parts ≠ []) : AC Try.prog 65 [.agg f.vs, stretchV s, .c (.int .i64 r)] (.c (.int .i64 (tallI f s r))) := by
  obtain ⟨_, _, g3, g4, g5, g6⟩ := good_of hv hs
  have hfound := parts_found hv hs
  have hok := valid_glyphs hv
  have hpl : 0 < s.parts.length := List.length_pos_iff.2 hp
  have hT : tallI f s r = (tallF f r 0 0 s.parts).1 - ((tallF f r 0 0 s.parts).2 - 1) * s.overlap := rfl
  unfold stretchV
  refine AC.intro Try.func65 rfl ?_
  simp only [Try.ntmps65, List.map_cons, List.map_nil, List.length_cons, List.length_nil, Nat.reduceAdd, Nat.reduceSub, List.replicate_succ, List.replicate_zero, List.cons_append, List.nil_append, Stretch.row]
  repeat (first
   | (with_reducible first | refine AW.seq ?_ | refine AW.block ?_ | refine aThen_n ?_ | refine aBlk_n ?_ | refine AW.ret ?_ | refine aThen_r ?_ | refine aBlk_r ?_ | refine aops_done ?_ | refine AW.skip ?_ | refine AW.exit ?_ | refine aThen_e ?_ | refine aBlk_hit ?_ | refine AW.label ?_ | refine AW.scope ?_ | refine aNg_n ?_ | refine aNg_r ?_ | refine aNg_e ?_)
   | ((with_reducible refine AW.region ?_); with_reducible refine aops_run (by simp [List.replicate_succ]; first | exact rfl | exact ⟨rfl, rfl⟩) ?_)
   | ((with_reducible refine AW.draw mixedP ?_ ?_); (focus first | exact .inl rfl | exact .inr (by decide)); with_reducible refine adraw_go (by simp [List.replicate_succ]; first | exact rfl | exact ⟨rfl, rfl, rfl⟩) ?_)
   | (with_reducible refine adraw_done (by kernel_rfl) ?_)
   | ((with_reducible refine aBlk_miss ?_ ?_); focus decide)
   | ((with_reducible refine cond_t ?_ ?_); focus (simp [ev]; done))
   | ((with_reducible refine cond_f ?_ ?_); focus (simp [ev]; done)))
  refine AW.loopH (ι := { q : Nat × Int × Int // q.1 ≤ s.parts.length ∧ tallF f r 0 0 s.parts = tallF f r q.2.1 q.2.2 (s.parts.drop q.1) ∧ -(40000000 * (q.1 : Int)) ≤ q.2.1 ∧ q.2.1 ≤ 40000000 * (q.1 : Int) ∧ (q.1 : Int) ≤ q.2.2 ∧ q.2.2 ≤ 1000 * (q.1 : Int) }) (fun q => [(9, .c (.int .i64 (q.1.1 : Int))), (7, .c (.int .i64 (q.1.2.1 - q.1.2.2 * s.overlap))), (8, .c (.int .i64 q.1.2.2)), (6, .c (.int .i64 0))]) (fun _ => [.box 27 f.vs false, .box 59 (s.row.map V.c) false]) (fun q => s.parts.length - q.1.1) ⟨(0, 0, 0), by simp⟩ _ (by simp only [wr, wrOps, List.cons_append, List.nil_append, List.append_nil, List.append_assoc]; exact rfl) _ (by simp only [havoc, List.foldl_cons, List.foldl_nil, List.set_cons_zero, List.set_cons_succ]; exact rfl) ?_ ?_
  all_goals simp only [puts, List.foldl_cons, List.foldl_nil, List.set_cons_zero, List.set_cons_succ]
  · refine Le.weak (by simp [subT, Stretch.row])
  · rintro ⟨⟨k, hh, cc⟩, hk, hI, b1, b2, b3, b4⟩
    simp only at hk hI b1 b2 b3 b4 ⊢
    have hov := mul_bound s.overlap cc 60000 8000 (by omega) g5 (by omega) (by omega)
    rw [Int.mul_comm s.overlap cc] at hov
    by_cases hlt : k < s.parts.length
    · obtain ⟨q, hq⟩ : ∃ q, s.parts[k] = q := ⟨_, rfl⟩
      rw [List.drop_eq_getElem_cons hlt, hq] at hI
      simp only [tallF] at hI
      obtain ⟨g, hg⟩ := hfound s.parts[k] (List.getElem_mem hlt)
      rw [hq] at hg
      obtain ⟨e1, e2, e3⟩ := height_small hok hg
      rw [pick_found hg] at hI
      obtain ⟨t1, t2⟩ := times_bound hr1 hr2 q
      have hw : IntKind.i64.wrap ((k : Int) + 1) = ((k + 1 : Nat) : Int) := by rw [wrap_i64 (by omega) (by omega)]; simp
      have w1 : IntKind.i64.wrap (g.height - s.overlap) = g.height - s.overlap := wrap_i64 (by omega) (by omega)
      have m1 := mul_bound (g.height - s.overlap) (times r q) 100000 1000 (by omega) (by omega) (by omega) t2
      rw [Int.mul_comm (g.height - s.overlap)] at m1
      have m2 := mul_bound g.height (times r q) 40000 1000 (by omega) (by omega) (by omega) t2
      rw [Int.mul_comm g.height] at m2
      have w2 : IntKind.i64.wrap (times r q * (g.height - s.overlap)) = times r q * (g.height - s.overlap) := wrap_i64 (by omega) (by omega)
      have w3 : IntKind.i64.wrap (hh - cc * s.overlap + times r q * (g.height - s.overlap)) = hh - cc * s.overlap + times r q * (g.height - s.overlap) := wrap_i64 (by omega) (by omega)
      have w4 : IntKind.i64.wrap (cc + times r q) = cc + times r q := wrap_i64 (by omega) (by omega)
      have e5 : hh - cc * s.overlap + times r q * (g.height - s.overlap) = (hh + times r q * g.height) - (cc + times r q) * s.overlap := by rw [Int.mul_sub, Int.add_mul]; omega
      rw [e5] at w3
      have e5' := e5
      cases hx : q.ext with
      | true =>
        have ht : times r q = r := by simp [times, hx]
        rw [ht] at w2 w3 w4 hI m2 t1 t2 e5
        repeat (first
         | (with_reducible first | refine AW.seq ?_ | refine AW.block ?_ | refine aThen_n ?_ | refine aBlk_n ?_ | refine AW.ret ?_ | refine aThen_r ?_ | refine aBlk_r ?_ | refine aops_done ?_ | refine AW.skip ?_ | refine AW.exit ?_ | refine aThen_e ?_ | refine aBlk_hit ?_ | refine AW.label ?_ | refine AW.scope ?_ | refine aNg_n ?_ | refine aNg_r ?_ | refine aNg_e ?_)
         | ((with_reducible refine AW.region ?_); with_reducible refine aops_run (by simp [List.replicate_succ, hlt, hq, Stretch.row, partsC, Part.row, hx]; first | exact rfl | exact ⟨rfl, rfl⟩) ?_)
         | ((with_reducible refine AW.draw mixedP ?_ ?_); (focus first | exact .inl rfl | exact .inr (by decide)); with_reducible refine adraw_go (by simp [List.replicate_succ, hlt, hq, Stretch.row, partsC, Part.row, hx]; first | exact rfl | exact ⟨rfl, rfl, rfl⟩) ?_)
         | (with_reducible refine adraw_done (by kernel_rfl) ?_)
         | ((with_reducible refine aBlk_miss ?_ ?_); focus decide)
         | ((with_reducible refine cond_t ?_ ?_); focus (simp [ev, hlt, hq, Stretch.row, partsC, Part.row, hx]; done))
         | ((with_reducible refine cond_f ?_ ?_); focus (simp [ev, hlt, hq, Stretch.row, partsC, Part.row, hx]; done)))
        (with_reducible first | refine aops_c (rfind_a f q.name hf.gl) Try.func106 (by kernel_rfl) (by kernel_rfl) ?_ ?_ ?_ | refine adraw_c (rfind_a f q.name hf.gl) Try.func106 (by kernel_rfl) (by kernel_rfl) ?_ ?_ ?_)
        focus (simp [gate, foundV, hg, Glyph.row]; done)
        focus (simp [pubCall, foundV, hg, Glyph.row]; done)
        first | (with_reducible refine aops_run (by simp [List.replicate_succ, foundV, hg, Glyph.row]; first | exact rfl | exact ⟨rfl, rfl⟩) ?_) | (with_reducible refine adraw_go (by simp [List.replicate_succ, foundV, hg, Glyph.row]; first | exact rfl | exact ⟨rfl, rfl, rfl⟩) ?_)
        repeat (first
         | (with_reducible first | refine AW.seq ?_ | refine AW.block ?_ | refine aThen_n ?_ | refine aBlk_n ?_ | refine AW.ret ?_ | refine aThen_r ?_ | refine aBlk_r ?_ | refine aops_done ?_ | refine AW.skip ?_ | refine AW.exit ?_ | refine aThen_e ?_ | refine aBlk_hit ?_ | refine AW.label ?_ | refine AW.scope ?_ | refine aNg_n ?_ | refine aNg_r ?_ | refine aNg_e ?_)
         | ((with_reducible refine AW.region ?_); with_reducible refine aops_run (by simp [List.replicate_succ, Stretch.row]; first | exact rfl | exact ⟨rfl, rfl⟩) ?_)
         | ((with_reducible refine AW.draw mixedP ?_ ?_); (focus first | exact .inl rfl | exact .inr (by decide)); with_reducible refine adraw_go (by simp [List.replicate_succ, Stretch.row]; first | exact rfl | exact ⟨rfl, rfl, rfl⟩) ?_)
         | (with_reducible refine adraw_done (by kernel_rfl) ?_)
         | ((with_reducible refine aBlk_miss ?_ ?_); focus decide)
         | ((with_reducible refine cond_t ?_ ?_); focus (simp [ev, Stretch.row]; done))
         | ((with_reducible refine cond_f ?_ ?_); focus (simp [ev, Stretch.row]; done)))
        (with_reducible first | refine aops_c (rheight_a g) Try.func107 (by kernel_rfl) (by kernel_rfl) ?_ ?_ ?_ | refine adraw_c (rheight_a g) Try.func107 (by kernel_rfl) (by kernel_rfl) ?_ ?_ ?_)
        focus (simp [gate, e3, glyphV, Glyph.row, w1, w2, e5, w3]; done)
        focus (simp [pubCall, e3, glyphV, Glyph.row, w1, w2, e5, w3]; done)
        first | (with_reducible refine aops_run (by simp [List.replicate_succ, e3, glyphV, Glyph.row, w1, w2, e5, w3]; first | exact rfl | exact ⟨rfl, rfl⟩) ?_) | (with_reducible refine adraw_go (by simp [List.replicate_succ, e3, glyphV, Glyph.row, w1, w2, e5, w3]; first | exact rfl | exact ⟨rfl, rfl, rfl⟩) ?_)
        repeat (first
         | (with_reducible first | refine AW.seq ?_ | refine AW.block ?_ | refine aThen_n ?_ | refine aBlk_n ?_ | refine AW.ret ?_ | refine aThen_r ?_ | refine aBlk_r ?_ | refine aops_done ?_ | refine AW.skip ?_ | refine AW.exit ?_ | refine aThen_e ?_ | refine aBlk_hit ?_ | refine AW.label ?_ | refine AW.scope ?_ | refine aNg_n ?_ | refine aNg_r ?_ | refine aNg_e ?_)
         | ((with_reducible refine AW.region ?_); with_reducible refine aops_run (by simp [List.replicate_succ, w4, hw]; first | exact rfl | exact ⟨rfl, rfl⟩) ?_)
         | ((with_reducible refine AW.draw mixedP ?_ ?_); (focus first | exact .inl rfl | exact .inr (by decide)); with_reducible refine adraw_go (by simp [List.replicate_succ, w4, hw]; first | exact rfl | exact ⟨rfl, rfl, rfl⟩) ?_)
         | (with_reducible refine adraw_done (by kernel_rfl) ?_)
         | ((with_reducible refine aBlk_miss ?_ ?_); focus decide)
         | ((with_reducible refine cond_t ?_ ?_); focus (simp [ev, w4, hw]; done))
         | ((with_reducible refine cond_f ?_ ?_); focus (simp [ev, w4, hw]; done)))
        refine ⟨⟨(k + 1, hh + r * g.height, cc + r), by omega, hI, by simp only; omega, by simp only; omega, by simp only; omega, by simp only; omega⟩, by simp only; omega, ?_⟩
        refine Le.wdrop 2 (Nat.le_of_ble_eq_true rfl) (by simp [subT, Stretch.row, partsC]) (by simp [Stretch.row, partsC]) (by simp [V.bnds, V.bnd]) (by simp [O.bnd, V.bnds, V.bnd, Stretch.row, partsC])
      | false =>
        have ht : times r q = 1 := by simp [times, hx]
        rw [ht] at w2 w3 w4 hI m2 t1 t2 e5
        simp only [Int.one_mul] at w2 w3 e5 hI m2
        repeat (first
         | (with_reducible first | refine AW.seq ?_ | refine AW.block ?_ | refine aThen_n ?_ | refine aBlk_n ?_ | refine AW.ret ?_ | refine aThen_r ?_ | refine aBlk_r ?_ | refine aops_done ?_ | refine AW.skip ?_ | refine AW.exit ?_ | refine aThen_e ?_ | refine aBlk_hit ?_ | refine AW.label ?_ | refine AW.scope ?_ | refine aNg_n ?_ | refine aNg_r ?_ | refine aNg_e ?_)
         | ((with_reducible refine AW.region ?_); with_reducible refine aops_run (by simp [List.replicate_succ, hlt, hq, Stretch.row, partsC, Part.row, hx]; first | exact rfl | exact ⟨rfl, rfl⟩) ?_)
         | ((with_reducible refine AW.draw mixedP ?_ ?_); (focus first | exact .inl rfl | exact .inr (by decide)); with_reducible refine adraw_go (by simp [List.replicate_succ, hlt, hq, Stretch.row, partsC, Part.row, hx]; first | exact rfl | exact ⟨rfl, rfl, rfl⟩) ?_)
         | (with_reducible refine adraw_done (by kernel_rfl) ?_)
         | ((with_reducible refine aBlk_miss ?_ ?_); focus decide)
         | ((with_reducible refine cond_t ?_ ?_); focus (simp [ev, hlt, hq, Stretch.row, partsC, Part.row, hx]; done))
         | ((with_reducible refine cond_f ?_ ?_); focus (simp [ev, hlt, hq, Stretch.row, partsC, Part.row, hx]; done)))
        (with_reducible first | refine aops_c (rfind_a f q.name hf.gl) Try.func106 (by kernel_rfl) (by kernel_rfl) ?_ ?_ ?_ | refine adraw_c (rfind_a f q.name hf.gl) Try.func106 (by kernel_rfl) (by kernel_rfl) ?_ ?_ ?_)
        focus (simp [gate, foundV, hg, Glyph.row]; done)
        focus (simp [pubCall, foundV, hg, Glyph.row]; done)
        first | (with_reducible refine aops_run (by simp [List.replicate_succ, foundV, hg, Glyph.row]; first | exact rfl | exact ⟨rfl, rfl⟩) ?_) | (with_reducible refine adraw_go (by simp [List.replicate_succ, foundV, hg, Glyph.row]; first | exact rfl | exact ⟨rfl, rfl, rfl⟩) ?_)
        repeat (first
         | (with_reducible first | refine AW.seq ?_ | refine AW.block ?_ | refine aThen_n ?_ | refine aBlk_n ?_ | refine AW.ret ?_ | refine aThen_r ?_ | refine aBlk_r ?_ | refine aops_done ?_ | refine AW.skip ?_ | refine AW.exit ?_ | refine aThen_e ?_ | refine aBlk_hit ?_ | refine AW.label ?_ | refine AW.scope ?_ | refine aNg_n ?_ | refine aNg_r ?_ | refine aNg_e ?_)
         | ((with_reducible refine AW.region ?_); with_reducible refine aops_run (by simp [List.replicate_succ, Stretch.row]; first | exact rfl | exact ⟨rfl, rfl⟩) ?_)
         | ((with_reducible refine AW.draw mixedP ?_ ?_); (focus first | exact .inl rfl | exact .inr (by decide)); with_reducible refine adraw_go (by simp [List.replicate_succ, Stretch.row]; first | exact rfl | exact ⟨rfl, rfl, rfl⟩) ?_)
         | (with_reducible refine adraw_done (by kernel_rfl) ?_)
         | ((with_reducible refine aBlk_miss ?_ ?_); focus decide)
         | ((with_reducible refine cond_t ?_ ?_); focus (simp [ev, Stretch.row]; done))
         | ((with_reducible refine cond_f ?_ ?_); focus (simp [ev, Stretch.row]; done)))
        (with_reducible first | refine aops_c (rheight_a g) Try.func107 (by kernel_rfl) (by kernel_rfl) ?_ ?_ ?_ | refine adraw_c (rheight_a g) Try.func107 (by kernel_rfl) (by kernel_rfl) ?_ ?_ ?_)
        focus (simp [gate, e3, glyphV, Glyph.row, w1, w2, e5, w3]; done)
        focus (simp [pubCall, e3, glyphV, Glyph.row, w1, w2, e5, w3]; done)
        first | (with_reducible refine aops_run (by simp [List.replicate_succ, e3, glyphV, Glyph.row, w1, w2, e5, w3]; first | exact rfl | exact ⟨rfl, rfl⟩) ?_) | (with_reducible refine adraw_go (by simp [List.replicate_succ, e3, glyphV, Glyph.row, w1, w2, e5, w3]; first | exact rfl | exact ⟨rfl, rfl, rfl⟩) ?_)
        repeat (first
         | (with_reducible first | refine AW.seq ?_ | refine AW.block ?_ | refine aThen_n ?_ | refine aBlk_n ?_ | refine AW.ret ?_ | refine aThen_r ?_ | refine aBlk_r ?_ | refine aops_done ?_ | refine AW.skip ?_ | refine AW.exit ?_ | refine aThen_e ?_ | refine aBlk_hit ?_ | refine AW.label ?_ | refine AW.scope ?_ | refine aNg_n ?_ | refine aNg_r ?_ | refine aNg_e ?_)
         | ((with_reducible refine AW.region ?_); with_reducible refine aops_run (by simp [List.replicate_succ, w4, hw]; first | exact rfl | exact ⟨rfl, rfl⟩) ?_)
         | ((with_reducible refine AW.draw mixedP ?_ ?_); (focus first | exact .inl rfl | exact .inr (by decide)); with_reducible refine adraw_go (by simp [List.replicate_succ, w4, hw]; first | exact rfl | exact ⟨rfl, rfl, rfl⟩) ?_)
         | (with_reducible refine adraw_done (by kernel_rfl) ?_)
         | ((with_reducible refine aBlk_miss ?_ ?_); focus decide)
         | ((with_reducible refine cond_t ?_ ?_); focus (simp [ev, w4, hw]; done))
         | ((with_reducible refine cond_f ?_ ?_); focus (simp [ev, w4, hw]; done)))
        refine ⟨⟨(k + 1, hh + g.height, cc + 1), by omega, hI, by simp only; omega, by simp only; omega, by simp only; omega, by simp only; omega⟩, by simp only; omega, ?_⟩
        refine Le.wdrop 2 (Nat.le_of_ble_eq_true rfl) (by simp [subT, Stretch.row, partsC]) (by simp [Stretch.row, partsC]) (by simp [V.bnds, V.bnd]) (by simp [O.bnd, V.bnds, V.bnd, Stretch.row, partsC])
    · have e : tallF f r 0 0 s.parts = (hh, cc) := by rw [hI, List.drop_of_length_le (by omega)]; rfl
      have hcc : ¬ cc = 0 := by omega
      have hR : tallI f s r = hh - cc * s.overlap + s.overlap := by rw [hT, e]; simp only [Int.sub_mul]; omega
      have w1 : IntKind.i64.wrap (hh - cc * s.overlap + s.overlap) = hh - cc * s.overlap + s.overlap := wrap_i64 (by omega) (by omega)
      repeat (first
       | (with_reducible first | refine AW.seq ?_ | refine AW.block ?_ | refine aThen_n ?_ | refine aBlk_n ?_ | refine AW.ret ?_ | refine aThen_r ?_ | refine aBlk_r ?_ | refine aops_done ?_ | refine AW.skip ?_ | refine AW.exit ?_ | refine aThen_e ?_ | refine aBlk_hit ?_ | refine AW.label ?_ | refine AW.scope ?_ | refine aNg_n ?_ | refine aNg_r ?_ | refine aNg_e ?_)
       | ((with_reducible refine AW.region ?_); with_reducible refine aops_run (by simp [List.replicate_succ, hlt, Stretch.row, partsC, hcc, w1]; first | exact rfl | exact ⟨rfl, rfl⟩) ?_)
       | ((with_reducible refine AW.draw mixedP ?_ ?_); (focus first | exact .inl rfl | exact .inr (by decide)); with_reducible refine adraw_go (by simp [List.replicate_succ, hlt, Stretch.row, partsC, hcc, w1]; first | exact rfl | exact ⟨rfl, rfl, rfl⟩) ?_)
       | (with_reducible refine adraw_done (by kernel_rfl) ?_)
       | ((with_reducible refine aBlk_miss ?_ ?_); focus decide)
       | ((with_reducible refine cond_t ?_ ?_); focus (simp [ev, hlt, Stretch.row, partsC, hcc, w1]; done))
       | ((with_reducible refine cond_f ?_ ?_); focus (simp [ev, hlt, Stretch.row, partsC, hcc, w1]; done)))
      simp [aRet, ares, aresL, ares1, V.pub, V.pubs, ldV, Try.results65, hR]
end Go.Proofs.Ythbcljjpmdfflaa
