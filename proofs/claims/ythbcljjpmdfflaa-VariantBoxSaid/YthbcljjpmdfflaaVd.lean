/-
  Layer 6's reference on the abstract machine: Box, Find, Same.
-/
import Derived.Test.YthbcljjpmdfflaaVc
namespace Go.Proofs.Ythbcljjpmdfflaa
open Go.RowKit
set_option linter.unusedSimpArgs false
set_option linter.unusedVariables false
set_option maxRecDepth 100000

theorem check_zero {f : Font} {p : Int} (hk : checkR f p = 0) : f.valid = true ∧ 1 ≤ p ∧ p ≤ 100 := by
  unfold checkR at hk
  have hv : f.valid = true := by cases h : f.valid <;> simp [h] at hk; rfl
  rw [if_neg (by simp [hv])] at hk
  refine ⟨hv, ?_⟩
  split at hk <;> omega
theorem isR_rep {f : Font} {name cg : ByteArray} {cr : Int} (h0 : ¬ cr = 0) (hi : isR f name ⟨cg, cr⟩ = true) : ∃ s, f.stretch name = some s ∧ s.parts ≠ [] ∧ 1 ≤ cr ∧ cr ≤ 1000 ∧ cg = ⟨#[]⟩ := by
  unfold isR at hi
  cases hst : f.stretch name with
  | none => rw [hst] at hi; simp [h0] at hi
  | some s =>
    rw [hst] at hi
    simp [h0] at hi
    exact ⟨s, rfl, List.length_pos_iff.1 hi.2.1, by omega, by omega, hi.1⟩

theorem rbox_a (f : Font) (name : ByteArray) (c : Choice) (p : Int) (hf : f.Fit) (hz : ∀ s ∈ f.stretches, s.sizes.length ≤ 1000) : AC Try.prog 26 [.agg f.vs, .c (.str name), choiceV c, .c (.int .i64 p)] (boxEV (boxR f name c p)) := by
  obtain ⟨cg, cr⟩ := c
  by_cases hc : checkR f p = 0
  · obtain ⟨hv, hp1, hp2⟩ := check_zero hc
    cases hi : isR f name ⟨cg, cr⟩ with
    | false =>
      have hR : boxR f name ⟨cg, cr⟩ p = (Box.zero, 8) := by unfold boxR; rw [if_neg (by simp [hc]), if_pos hi]
      rw [hR]
      unfold choiceV
      refine AC.intro Try.func26 rfl ?_
      simp only [Try.ntmps26, List.map_cons, List.map_nil, List.length_cons, List.length_nil, Nat.reduceAdd, Nat.reduceSub, List.replicate_succ, List.replicate_zero, List.cons_append, List.nil_append]
      repeat (first
       | (with_reducible first | refine AW.seq ?_ | refine AW.block ?_ | refine aThen_n ?_ | refine aBlk_n ?_ | refine AW.ret ?_ | refine aThen_r ?_ | refine aBlk_r ?_ | refine aops_done ?_ | refine AW.skip ?_ | refine AW.exit ?_ | refine aThen_e ?_ | refine aBlk_hit ?_ | refine AW.label ?_ | refine AW.scope ?_ | refine aNg_n ?_ | refine aNg_r ?_ | refine aNg_e ?_)
       | ((with_reducible refine AW.region ?_); with_reducible refine aops_run (by simp [List.replicate_succ]; first | exact rfl | exact ⟨rfl, rfl⟩) ?_)
       | ((with_reducible refine AW.draw mixedP ?_ ?_); (focus first | exact .inl rfl | exact .inr (by decide)); with_reducible refine adraw_go (by simp [List.replicate_succ]; first | exact rfl | exact ⟨rfl, rfl, rfl⟩) ?_)
       | (with_reducible refine adraw_done (by kernel_rfl) ?_)
       | ((with_reducible refine aBlk_miss ?_ ?_); focus decide)
       | ((with_reducible refine cond_t ?_ ?_); focus (simp [ev]; done))
       | ((with_reducible refine cond_f ?_ ?_); focus (simp [ev]; done)))
      (with_reducible first | refine aops_c (rcheck_a f p hf) Try.func62 (by kernel_rfl) (by kernel_rfl) ?_ ?_ ?_ | refine adraw_c (rcheck_a f p hf) Try.func62 (by kernel_rfl) (by kernel_rfl) ?_ ?_ ?_)
      focus (simp [gate, hc, errV]; done)
      focus (simp [pubCall, hc, errV]; done)
      first | (with_reducible refine aops_run (by simp [List.replicate_succ, hc, errV]; first | exact rfl | exact ⟨rfl, rfl⟩) ?_) | (with_reducible refine adraw_go (by simp [List.replicate_succ, hc, errV]; first | exact rfl | exact ⟨rfl, rfl, rfl⟩) ?_)
      repeat (first
       | (with_reducible first | refine AW.seq ?_ | refine AW.block ?_ | refine aThen_n ?_ | refine aBlk_n ?_ | refine AW.ret ?_ | refine aThen_r ?_ | refine aBlk_r ?_ | refine aops_done ?_ | refine AW.skip ?_ | refine AW.exit ?_ | refine aThen_e ?_ | refine aBlk_hit ?_ | refine AW.label ?_ | refine AW.scope ?_ | refine aNg_n ?_ | refine aNg_r ?_ | refine aNg_e ?_)
       | ((with_reducible refine AW.region ?_); with_reducible refine aops_run (by simp [List.replicate_succ]; first | exact rfl | exact ⟨rfl, rfl⟩) ?_)
       | ((with_reducible refine AW.draw mixedP ?_ ?_); (focus first | exact .inl rfl | exact .inr (by decide)); with_reducible refine adraw_go (by simp [List.replicate_succ]; first | exact rfl | exact ⟨rfl, rfl, rfl⟩) ?_)
       | (with_reducible refine adraw_done (by kernel_rfl) ?_)
       | ((with_reducible refine aBlk_miss ?_ ?_); focus decide)
       | ((with_reducible refine cond_t ?_ ?_); focus (simp [ev]; done))
       | ((with_reducible refine cond_f ?_ ?_); focus (simp [ev]; done)))
      (with_reducible first | refine aops_c (ris_a f name ⟨cg, cr⟩ hf.sl hz) Try.func67 (by kernel_rfl) (by kernel_rfl) ?_ ?_ ?_ | refine adraw_c (ris_a f name ⟨cg, cr⟩ hf.sl hz) Try.func67 (by kernel_rfl) (by kernel_rfl) ?_ ?_ ?_)
      focus (simp [gate, hi, choiceV]; done)
      focus (simp [pubCall, hi, choiceV]; done)
      first | (with_reducible refine aops_run (by simp [List.replicate_succ, hi, choiceV]; first | exact rfl | exact ⟨rfl, rfl⟩) ?_) | (with_reducible refine adraw_go (by simp [List.replicate_succ, hi, choiceV]; first | exact rfl | exact ⟨rfl, rfl, rfl⟩) ?_)
      repeat (first
       | (with_reducible first | refine AW.seq ?_ | refine AW.block ?_ | refine aThen_n ?_ | refine aBlk_n ?_ | refine AW.ret ?_ | refine aThen_r ?_ | refine aBlk_r ?_ | refine aops_done ?_ | refine AW.skip ?_ | refine AW.exit ?_ | refine aThen_e ?_ | refine aBlk_hit ?_ | refine AW.label ?_ | refine AW.scope ?_ | refine aNg_n ?_ | refine aNg_r ?_ | refine aNg_e ?_)
       | ((with_reducible refine AW.region ?_); with_reducible refine aops_run (by simp [List.replicate_succ]; first | exact rfl | exact ⟨rfl, rfl⟩) ?_)
       | ((with_reducible refine AW.draw mixedP ?_ ?_); (focus first | exact .inl rfl | exact .inr (by decide)); with_reducible refine adraw_go (by simp [List.replicate_succ]; first | exact rfl | exact ⟨rfl, rfl, rfl⟩) ?_)
       | (with_reducible refine adraw_done (by kernel_rfl) ?_)
       | ((with_reducible refine aBlk_miss ?_ ?_); focus decide)
       | ((with_reducible refine cond_t ?_ ?_); focus (simp [ev]; done))
       | ((with_reducible refine cond_f ?_ ?_); focus (simp [ev]; done)))
      simp [aRet, ares, aresL, ares1, V.pub, V.pubs, ldV, Try.results26, errV, boxEV, boxV, Box.zero, Box.row, Box.rows, intsC]
    | true =>
      by_cases h0 : cr = 0
      · subst h0
        have hR : boxR f name ⟨cg, 0⟩ p = ((sizedR f cg p).1, 0) := by unfold boxR; rw [if_neg (by simp [hc]), if_neg (by simp [hi]), if_pos rfl]
        rw [hR]
        have hcl := rsize_a f cg p hf.gl
        obtain ⟨b, hq⟩ : ∃ b, (sizedR f cg p).1 = b := ⟨_, rfl⟩
        rw [hq] at hcl ⊢
        obtain ⟨k, n, s, w, h, d, x, y, kids, o, src⟩ := b
        simp only [boxEV, errV, boxV, Box.row, List.map_cons, List.map_nil] at hcl ⊢
        unfold choiceV
        refine AC.intro Try.func26 rfl ?_
        simp only [Try.ntmps26, List.map_cons, List.map_nil, List.length_cons, List.length_nil, Nat.reduceAdd, Nat.reduceSub, List.replicate_succ, List.replicate_zero, List.cons_append, List.nil_append]
        repeat (first
         | (with_reducible first | refine AW.seq ?_ | refine AW.block ?_ | refine aThen_n ?_ | refine aBlk_n ?_ | refine AW.ret ?_ | refine aThen_r ?_ | refine aBlk_r ?_ | refine aops_done ?_ | refine AW.skip ?_ | refine AW.exit ?_ | refine aThen_e ?_ | refine aBlk_hit ?_ | refine AW.label ?_ | refine AW.scope ?_ | refine aNg_n ?_ | refine aNg_r ?_ | refine aNg_e ?_)
         | ((with_reducible refine AW.region ?_); with_reducible refine aops_run (by simp [List.replicate_succ]; first | exact rfl | exact ⟨rfl, rfl⟩) ?_)
         | ((with_reducible refine AW.draw mixedP ?_ ?_); (focus first | exact .inl rfl | exact .inr (by decide)); with_reducible refine adraw_go (by simp [List.replicate_succ]; first | exact rfl | exact ⟨rfl, rfl, rfl⟩) ?_)
         | (with_reducible refine adraw_done (by kernel_rfl) ?_)
         | ((with_reducible refine aBlk_miss ?_ ?_); focus decide)
         | ((with_reducible refine cond_t ?_ ?_); focus (simp [ev]; done))
         | ((with_reducible refine cond_f ?_ ?_); focus (simp [ev]; done)))
        (with_reducible first | refine aops_c (rcheck_a f p hf) Try.func62 (by kernel_rfl) (by kernel_rfl) ?_ ?_ ?_ | refine adraw_c (rcheck_a f p hf) Try.func62 (by kernel_rfl) (by kernel_rfl) ?_ ?_ ?_)
        focus (simp [gate, hc, errV]; done)
        focus (simp [pubCall, hc, errV]; done)
        first | (with_reducible refine aops_run (by simp [List.replicate_succ, hc, errV]; first | exact rfl | exact ⟨rfl, rfl⟩) ?_) | (with_reducible refine adraw_go (by simp [List.replicate_succ, hc, errV]; first | exact rfl | exact ⟨rfl, rfl, rfl⟩) ?_)
        repeat (first
         | (with_reducible first | refine AW.seq ?_ | refine AW.block ?_ | refine aThen_n ?_ | refine aBlk_n ?_ | refine AW.ret ?_ | refine aThen_r ?_ | refine aBlk_r ?_ | refine aops_done ?_ | refine AW.skip ?_ | refine AW.exit ?_ | refine aThen_e ?_ | refine aBlk_hit ?_ | refine AW.label ?_ | refine AW.scope ?_ | refine aNg_n ?_ | refine aNg_r ?_ | refine aNg_e ?_)
         | ((with_reducible refine AW.region ?_); with_reducible refine aops_run (by simp [List.replicate_succ]; first | exact rfl | exact ⟨rfl, rfl⟩) ?_)
         | ((with_reducible refine AW.draw mixedP ?_ ?_); (focus first | exact .inl rfl | exact .inr (by decide)); with_reducible refine adraw_go (by simp [List.replicate_succ]; first | exact rfl | exact ⟨rfl, rfl, rfl⟩) ?_)
         | (with_reducible refine adraw_done (by kernel_rfl) ?_)
         | ((with_reducible refine aBlk_miss ?_ ?_); focus decide)
         | ((with_reducible refine cond_t ?_ ?_); focus (simp [ev]; done))
         | ((with_reducible refine cond_f ?_ ?_); focus (simp [ev]; done)))
        (with_reducible first | refine aops_c (ris_a f name ⟨cg, 0⟩ hf.sl hz) Try.func67 (by kernel_rfl) (by kernel_rfl) ?_ ?_ ?_ | refine adraw_c (ris_a f name ⟨cg, 0⟩ hf.sl hz) Try.func67 (by kernel_rfl) (by kernel_rfl) ?_ ?_ ?_)
        focus (simp [gate, hi, choiceV]; done)
        focus (simp [pubCall, hi, choiceV]; done)
        first | (with_reducible refine aops_run (by simp [List.replicate_succ, hi, choiceV]; first | exact rfl | exact ⟨rfl, rfl⟩) ?_) | (with_reducible refine adraw_go (by simp [List.replicate_succ, hi, choiceV]; first | exact rfl | exact ⟨rfl, rfl, rfl⟩) ?_)
        repeat (first
         | (with_reducible first | refine AW.seq ?_ | refine AW.block ?_ | refine aThen_n ?_ | refine aBlk_n ?_ | refine AW.ret ?_ | refine aThen_r ?_ | refine aBlk_r ?_ | refine aops_done ?_ | refine AW.skip ?_ | refine AW.exit ?_ | refine aThen_e ?_ | refine aBlk_hit ?_ | refine AW.label ?_ | refine AW.scope ?_ | refine aNg_n ?_ | refine aNg_r ?_ | refine aNg_e ?_)
         | ((with_reducible refine AW.region ?_); with_reducible refine aops_run (by simp [List.replicate_succ]; first | exact rfl | exact ⟨rfl, rfl⟩) ?_)
         | ((with_reducible refine AW.draw mixedP ?_ ?_); (focus first | exact .inl rfl | exact .inr (by decide)); with_reducible refine adraw_go (by simp [List.replicate_succ]; first | exact rfl | exact ⟨rfl, rfl, rfl⟩) ?_)
         | (with_reducible refine adraw_done (by kernel_rfl) ?_)
         | ((with_reducible refine aBlk_miss ?_ ?_); focus decide)
         | ((with_reducible refine cond_t ?_ ?_); focus (simp [ev]; done))
         | ((with_reducible refine cond_f ?_ ?_); focus (simp [ev]; done)))
        (with_reducible first | refine aops_c (hcl) Try.func68 (by kernel_rfl) (by kernel_rfl) ?_ ?_ ?_ | refine adraw_c (hcl) Try.func68 (by kernel_rfl) (by kernel_rfl) ?_ ?_ ?_)
        focus (simp [gate]; done)
        focus (simp [pubCall]; done)
        first | (with_reducible refine aops_run (by simp [List.replicate_succ]; first | exact rfl | exact ⟨rfl, rfl⟩) ?_) | (with_reducible refine adraw_go (by simp [List.replicate_succ]; first | exact rfl | exact ⟨rfl, rfl, rfl⟩) ?_)
        repeat (first
         | (with_reducible first | refine AW.seq ?_ | refine AW.block ?_ | refine aThen_n ?_ | refine aBlk_n ?_ | refine AW.ret ?_ | refine aThen_r ?_ | refine aBlk_r ?_ | refine aops_done ?_ | refine AW.skip ?_ | refine AW.exit ?_ | refine aThen_e ?_ | refine aBlk_hit ?_ | refine AW.label ?_ | refine AW.scope ?_ | refine aNg_n ?_ | refine aNg_r ?_ | refine aNg_e ?_)
         | ((with_reducible refine AW.region ?_); with_reducible refine aops_run (by simp [List.replicate_succ]; first | exact rfl | exact ⟨rfl, rfl⟩) ?_)
         | ((with_reducible refine AW.draw mixedP ?_ ?_); (focus first | exact .inl rfl | exact .inr (by decide)); with_reducible refine adraw_go (by simp [List.replicate_succ]; first | exact rfl | exact ⟨rfl, rfl, rfl⟩) ?_)
         | (with_reducible refine adraw_done (by kernel_rfl) ?_)
         | ((with_reducible refine aBlk_miss ?_ ?_); focus decide)
         | ((with_reducible refine cond_t ?_ ?_); focus (simp [ev]; done))
         | ((with_reducible refine cond_f ?_ ?_); focus (simp [ev]; done)))
        simp [aRet, ares, aresL, ares1, V.pub, V.pubs, ldV, Try.results26]
      · obtain ⟨s, hst, hpn, r1, r2, _⟩ := isR_rep h0 hi
        have hs := (stretchO_mem hst).1
        have hR : boxR f name ⟨cg, cr⟩ p = (asmBox f s cr p, 0) := by unfold boxR; rw [if_neg (by simp [hc]), if_neg (by simp [hi]), if_neg h0, hst]; rfl
        rw [hR]
        have hcl := rasm_a f s cr p hf hv hs r1 r2 hp1 hp2 hpn
        obtain ⟨b, hq⟩ : ∃ b, asmBox f s cr p = b := ⟨_, rfl⟩
        rw [hq] at hcl ⊢
        obtain ⟨bk, bn, bs, bw, bh, bd, bx, by_, kids, bo, src⟩ := b
        simp only [boxEV, errV, boxV, Box.row, List.map_cons, List.map_nil] at hcl ⊢
        unfold choiceV
        refine AC.intro Try.func26 rfl ?_
        simp only [Try.ntmps26, List.map_cons, List.map_nil, List.length_cons, List.length_nil, Nat.reduceAdd, Nat.reduceSub, List.replicate_succ, List.replicate_zero, List.cons_append, List.nil_append]
        repeat (first
         | (with_reducible first | refine AW.seq ?_ | refine AW.block ?_ | refine aThen_n ?_ | refine aBlk_n ?_ | refine AW.ret ?_ | refine aThen_r ?_ | refine aBlk_r ?_ | refine aops_done ?_ | refine AW.skip ?_ | refine AW.exit ?_ | refine aThen_e ?_ | refine aBlk_hit ?_ | refine AW.label ?_ | refine AW.scope ?_ | refine aNg_n ?_ | refine aNg_r ?_ | refine aNg_e ?_)
         | ((with_reducible refine AW.region ?_); with_reducible refine aops_run (by simp [List.replicate_succ]; first | exact rfl | exact ⟨rfl, rfl⟩) ?_)
         | ((with_reducible refine AW.draw mixedP ?_ ?_); (focus first | exact .inl rfl | exact .inr (by decide)); with_reducible refine adraw_go (by simp [List.replicate_succ]; first | exact rfl | exact ⟨rfl, rfl, rfl⟩) ?_)
         | (with_reducible refine adraw_done (by kernel_rfl) ?_)
         | ((with_reducible refine aBlk_miss ?_ ?_); focus decide)
         | ((with_reducible refine cond_t ?_ ?_); focus (simp [ev]; done))
         | ((with_reducible refine cond_f ?_ ?_); focus (simp [ev]; done)))
        (with_reducible first | refine aops_c (rcheck_a f p hf) Try.func62 (by kernel_rfl) (by kernel_rfl) ?_ ?_ ?_ | refine adraw_c (rcheck_a f p hf) Try.func62 (by kernel_rfl) (by kernel_rfl) ?_ ?_ ?_)
        focus (simp [gate, hc, errV]; done)
        focus (simp [pubCall, hc, errV]; done)
        first | (with_reducible refine aops_run (by simp [List.replicate_succ, hc, errV]; first | exact rfl | exact ⟨rfl, rfl⟩) ?_) | (with_reducible refine adraw_go (by simp [List.replicate_succ, hc, errV]; first | exact rfl | exact ⟨rfl, rfl, rfl⟩) ?_)
        repeat (first
         | (with_reducible first | refine AW.seq ?_ | refine AW.block ?_ | refine aThen_n ?_ | refine aBlk_n ?_ | refine AW.ret ?_ | refine aThen_r ?_ | refine aBlk_r ?_ | refine aops_done ?_ | refine AW.skip ?_ | refine AW.exit ?_ | refine aThen_e ?_ | refine aBlk_hit ?_ | refine AW.label ?_ | refine AW.scope ?_ | refine aNg_n ?_ | refine aNg_r ?_ | refine aNg_e ?_)
         | ((with_reducible refine AW.region ?_); with_reducible refine aops_run (by simp [List.replicate_succ]; first | exact rfl | exact ⟨rfl, rfl⟩) ?_)
         | ((with_reducible refine AW.draw mixedP ?_ ?_); (focus first | exact .inl rfl | exact .inr (by decide)); with_reducible refine adraw_go (by simp [List.replicate_succ]; first | exact rfl | exact ⟨rfl, rfl, rfl⟩) ?_)
         | (with_reducible refine adraw_done (by kernel_rfl) ?_)
         | ((with_reducible refine aBlk_miss ?_ ?_); focus decide)
         | ((with_reducible refine cond_t ?_ ?_); focus (simp [ev]; done))
         | ((with_reducible refine cond_f ?_ ?_); focus (simp [ev]; done)))
        (with_reducible first | refine aops_c (ris_a f name ⟨cg, cr⟩ hf.sl hz) Try.func67 (by kernel_rfl) (by kernel_rfl) ?_ ?_ ?_ | refine adraw_c (ris_a f name ⟨cg, cr⟩ hf.sl hz) Try.func67 (by kernel_rfl) (by kernel_rfl) ?_ ?_ ?_)
        focus (simp [gate, hi, choiceV]; done)
        focus (simp [pubCall, hi, choiceV]; done)
        first | (with_reducible refine aops_run (by simp [List.replicate_succ, hi, choiceV]; first | exact rfl | exact ⟨rfl, rfl⟩) ?_) | (with_reducible refine adraw_go (by simp [List.replicate_succ, hi, choiceV]; first | exact rfl | exact ⟨rfl, rfl, rfl⟩) ?_)
        repeat (first
         | (with_reducible first | refine AW.seq ?_ | refine AW.block ?_ | refine aThen_n ?_ | refine aBlk_n ?_ | refine AW.ret ?_ | refine aThen_r ?_ | refine aBlk_r ?_ | refine aops_done ?_ | refine AW.skip ?_ | refine AW.exit ?_ | refine aThen_e ?_ | refine aBlk_hit ?_ | refine AW.label ?_ | refine AW.scope ?_ | refine aNg_n ?_ | refine aNg_r ?_ | refine aNg_e ?_)
         | ((with_reducible refine AW.region ?_); with_reducible refine aops_run (by simp [List.replicate_succ, h0]; first | exact rfl | exact ⟨rfl, rfl⟩) ?_)
         | ((with_reducible refine AW.draw mixedP ?_ ?_); (focus first | exact .inl rfl | exact .inr (by decide)); with_reducible refine adraw_go (by simp [List.replicate_succ, h0]; first | exact rfl | exact ⟨rfl, rfl, rfl⟩) ?_)
         | (with_reducible refine adraw_done (by kernel_rfl) ?_)
         | ((with_reducible refine aBlk_miss ?_ ?_); focus decide)
         | ((with_reducible refine cond_t ?_ ?_); focus (simp [ev, h0]; done))
         | ((with_reducible refine cond_f ?_ ?_); focus (simp [ev, h0]; done)))
        (with_reducible first | refine aops_c (rstretch_a f name hf.sl) Try.func33 (by kernel_rfl) (by kernel_rfl) ?_ ?_ ?_ | refine adraw_c (rstretch_a f name hf.sl) Try.func33 (by kernel_rfl) (by kernel_rfl) ?_ ?_ ?_)
        focus (simp [gate, foundS, stretchV, Stretch.row, hst]; done)
        focus (simp [pubCall, foundS, stretchV, Stretch.row, hst]; done)
        first | (with_reducible refine aops_run (by simp [List.replicate_succ, foundS, stretchV, Stretch.row, hst]; first | exact rfl | exact ⟨rfl, rfl⟩) ?_) | (with_reducible refine adraw_go (by simp [List.replicate_succ, foundS, stretchV, Stretch.row, hst]; first | exact rfl | exact ⟨rfl, rfl, rfl⟩) ?_)
        repeat (first
         | (with_reducible first | refine AW.seq ?_ | refine AW.block ?_ | refine aThen_n ?_ | refine aBlk_n ?_ | refine AW.ret ?_ | refine aThen_r ?_ | refine aBlk_r ?_ | refine aops_done ?_ | refine AW.skip ?_ | refine AW.exit ?_ | refine aThen_e ?_ | refine aBlk_hit ?_ | refine AW.label ?_ | refine AW.scope ?_ | refine aNg_n ?_ | refine aNg_r ?_ | refine aNg_e ?_)
         | ((with_reducible refine AW.region ?_); with_reducible refine aops_run (by simp [List.replicate_succ]; first | exact rfl | exact ⟨rfl, rfl⟩) ?_)
         | ((with_reducible refine AW.draw mixedP ?_ ?_); (focus first | exact .inl rfl | exact .inr (by decide)); with_reducible refine adraw_go (by simp [List.replicate_succ]; first | exact rfl | exact ⟨rfl, rfl, rfl⟩) ?_)
         | (with_reducible refine adraw_done (by kernel_rfl) ?_)
         | ((with_reducible refine aBlk_miss ?_ ?_); focus decide)
         | ((with_reducible refine cond_t ?_ ?_); focus (simp [ev]; done))
         | ((with_reducible refine cond_f ?_ ?_); focus (simp [ev]; done)))
        (with_reducible first | refine aops_c (hcl) Try.func69 (by kernel_rfl) (by kernel_rfl) ?_ ?_ ?_ | refine adraw_c (hcl) Try.func69 (by kernel_rfl) (by kernel_rfl) ?_ ?_ ?_)
        focus (simp [gate, stretchV, Stretch.row]; done)
        focus (simp [pubCall, stretchV, Stretch.row]; done)
        first | (with_reducible refine aops_run (by simp [List.replicate_succ, stretchV, Stretch.row]; first | exact rfl | exact ⟨rfl, rfl⟩) ?_) | (with_reducible refine adraw_go (by simp [List.replicate_succ, stretchV, Stretch.row]; first | exact rfl | exact ⟨rfl, rfl, rfl⟩) ?_)
        repeat (first
         | (with_reducible first | refine AW.seq ?_ | refine AW.block ?_ | refine aThen_n ?_ | refine aBlk_n ?_ | refine AW.ret ?_ | refine aThen_r ?_ | refine aBlk_r ?_ | refine aops_done ?_ | refine AW.skip ?_ | refine AW.exit ?_ | refine aThen_e ?_ | refine aBlk_hit ?_ | refine AW.label ?_ | refine AW.scope ?_ | refine aNg_n ?_ | refine aNg_r ?_ | refine aNg_e ?_)
         | ((with_reducible refine AW.region ?_); with_reducible refine aops_run (by simp [List.replicate_succ]; first | exact rfl | exact ⟨rfl, rfl⟩) ?_)
         | ((with_reducible refine AW.draw mixedP ?_ ?_); (focus first | exact .inl rfl | exact .inr (by decide)); with_reducible refine adraw_go (by simp [List.replicate_succ]; first | exact rfl | exact ⟨rfl, rfl, rfl⟩) ?_)
         | (with_reducible refine adraw_done (by kernel_rfl) ?_)
         | ((with_reducible refine aBlk_miss ?_ ?_); focus decide)
         | ((with_reducible refine cond_t ?_ ?_); focus (simp [ev]; done))
         | ((with_reducible refine cond_f ?_ ?_); focus (simp [ev]; done)))
        simp [aRet, ares, aresL, ares1, V.pub, V.pubs, ldV, Try.results26]
  · have hR : boxR f name ⟨cg, cr⟩ p = (Box.zero, checkR f p) := by unfold boxR; rw [if_pos (by simp [hc])]
    rw [hR]
    unfold choiceV
    refine AC.intro Try.func26 rfl ?_
    simp only [Try.ntmps26, List.map_cons, List.map_nil, List.length_cons, List.length_nil, Nat.reduceAdd, Nat.reduceSub, List.replicate_succ, List.replicate_zero, List.cons_append, List.nil_append]
    repeat (first
     | (with_reducible first | refine AW.seq ?_ | refine AW.block ?_ | refine aThen_n ?_ | refine aBlk_n ?_ | refine AW.ret ?_ | refine aThen_r ?_ | refine aBlk_r ?_ | refine aops_done ?_ | refine AW.skip ?_ | refine AW.exit ?_ | refine aThen_e ?_ | refine aBlk_hit ?_ | refine AW.label ?_ | refine AW.scope ?_ | refine aNg_n ?_ | refine aNg_r ?_ | refine aNg_e ?_)
     | ((with_reducible refine AW.region ?_); with_reducible refine aops_run (by simp [List.replicate_succ]; first | exact rfl | exact ⟨rfl, rfl⟩) ?_)
     | ((with_reducible refine AW.draw mixedP ?_ ?_); (focus first | exact .inl rfl | exact .inr (by decide)); with_reducible refine adraw_go (by simp [List.replicate_succ]; first | exact rfl | exact ⟨rfl, rfl, rfl⟩) ?_)
     | (with_reducible refine adraw_done (by kernel_rfl) ?_)
     | ((with_reducible refine aBlk_miss ?_ ?_); focus decide)
     | ((with_reducible refine cond_t ?_ ?_); focus (simp [ev]; done))
     | ((with_reducible refine cond_f ?_ ?_); focus (simp [ev]; done)))
    (with_reducible first | refine aops_c (rcheck_a f p hf) Try.func62 (by kernel_rfl) (by kernel_rfl) ?_ ?_ ?_ | refine adraw_c (rcheck_a f p hf) Try.func62 (by kernel_rfl) (by kernel_rfl) ?_ ?_ ?_)
    focus (simp [gate, errV]; done)
    focus (simp [pubCall, errV]; done)
    first | (with_reducible refine aops_run (by simp [List.replicate_succ, errV]; first | exact rfl | exact ⟨rfl, rfl⟩) ?_) | (with_reducible refine adraw_go (by simp [List.replicate_succ, errV]; first | exact rfl | exact ⟨rfl, rfl, rfl⟩) ?_)
    repeat (first
     | (with_reducible first | refine AW.seq ?_ | refine AW.block ?_ | refine aThen_n ?_ | refine aBlk_n ?_ | refine AW.ret ?_ | refine aThen_r ?_ | refine aBlk_r ?_ | refine aops_done ?_ | refine AW.skip ?_ | refine AW.exit ?_ | refine aThen_e ?_ | refine aBlk_hit ?_ | refine AW.label ?_ | refine AW.scope ?_ | refine aNg_n ?_ | refine aNg_r ?_ | refine aNg_e ?_)
     | ((with_reducible refine AW.region ?_); with_reducible refine aops_run (by simp [List.replicate_succ, hc]; first | exact rfl | exact ⟨rfl, rfl⟩) ?_)
     | ((with_reducible refine AW.draw mixedP ?_ ?_); (focus first | exact .inl rfl | exact .inr (by decide)); with_reducible refine adraw_go (by simp [List.replicate_succ, hc]; first | exact rfl | exact ⟨rfl, rfl, rfl⟩) ?_)
     | (with_reducible refine adraw_done (by kernel_rfl) ?_)
     | ((with_reducible refine aBlk_miss ?_ ?_); focus decide)
     | ((with_reducible refine cond_t ?_ ?_); focus (simp [ev, hc]; done))
     | ((with_reducible refine cond_f ?_ ?_); focus (simp [ev, hc]; done)))
    simp [aRet, ares, aresL, ares1, V.pub, V.pubs, ldV, Try.results26, errV, boxEV, boxV, Box.zero, Box.row, Box.rows, intsC]

/-- Find -/
def findR (f : Font) (name : ByteArray) (need p : Int) : Box × Int := if checkR f p ≠ 0 then (Box.zero, checkR f p) else boxR f name (chooseI f name need p) p
theorem rfind_v (f : Font) (name : ByteArray) (need p : Int) (hf : f.Fit) (hz : ∀ s ∈ f.stretches, s.sizes.length ≤ 1000) : AC Try.prog 31 [.agg f.vs, .c (.str name), .c (.int .i64 need), .c (.int .i64 p)] (boxEV (findR f name need p)) := by
  have hch := rchoose_a f name need p hf
  by_cases hc : checkR f p = 0
  · have hR : findR f name need p = boxR f name (chooseI f name need p) p := by unfold findR; rw [if_neg (by simp [hc])]
    have hR2 : chooseR f name need p = (chooseI f name need p, 0) := by unfold chooseR; rw [if_neg (by simp [hc])]
    rw [hR]
    rw [hR2] at hch
    obtain ⟨c, hcc⟩ : ∃ c, chooseI f name need p = c := ⟨_, rfl⟩
    rw [hcc] at hch ⊢
    obtain ⟨cg, cr⟩ := c
    simp only [choiceEV, choiceV, errV] at hch
    have hcl := rbox_a f name ⟨cg, cr⟩ p hf hz
    obtain ⟨q, hq⟩ : ∃ q, boxR f name ⟨cg, cr⟩ p = q := ⟨_, rfl⟩
    rw [hq] at hcl ⊢
    obtain ⟨⟨bk, bn, bs, bw, bh, bd, bx, by_, kids, bo, src⟩, e⟩ := q
    simp only [choiceV, boxEV, errV, boxV, Box.row, List.map_cons, List.map_nil] at hcl ⊢
    refine AC.intro Try.func31 rfl ?_
    simp only [Try.ntmps31, List.map_cons, List.map_nil, List.length_cons, List.length_nil, Nat.reduceAdd, Nat.reduceSub, List.replicate_succ, List.replicate_zero, List.cons_append, List.nil_append]
    repeat (first
     | (with_reducible first | refine AW.seq ?_ | refine AW.block ?_ | refine aThen_n ?_ | refine aBlk_n ?_ | refine AW.ret ?_ | refine aThen_r ?_ | refine aBlk_r ?_ | refine aops_done ?_ | refine AW.skip ?_ | refine AW.exit ?_ | refine aThen_e ?_ | refine aBlk_hit ?_ | refine AW.label ?_ | refine AW.scope ?_ | refine aNg_n ?_ | refine aNg_r ?_ | refine aNg_e ?_)
     | ((with_reducible refine AW.region ?_); with_reducible refine aops_run (by simp [List.replicate_succ]; first | exact rfl | exact ⟨rfl, rfl⟩) ?_)
     | ((with_reducible refine AW.draw mixedP ?_ ?_); (focus first | exact .inl rfl | exact .inr (by decide)); with_reducible refine adraw_go (by simp [List.replicate_succ]; first | exact rfl | exact ⟨rfl, rfl, rfl⟩) ?_)
     | (with_reducible refine adraw_done (by kernel_rfl) ?_)
     | ((with_reducible refine aBlk_miss ?_ ?_); focus decide)
     | ((with_reducible refine cond_t ?_ ?_); focus (simp [ev]; done))
     | ((with_reducible refine cond_f ?_ ?_); focus (simp [ev]; done)))
    (with_reducible first | refine aops_c (hch) Try.func24 (by kernel_rfl) (by kernel_rfl) ?_ ?_ ?_ | refine adraw_c (hch) Try.func24 (by kernel_rfl) (by kernel_rfl) ?_ ?_ ?_)
    focus (simp [gate]; done)
    focus (simp [pubCall]; done)
    first | (with_reducible refine aops_run (by simp [List.replicate_succ]; first | exact rfl | exact ⟨rfl, rfl⟩) ?_) | (with_reducible refine adraw_go (by simp [List.replicate_succ]; first | exact rfl | exact ⟨rfl, rfl, rfl⟩) ?_)
    repeat (first
     | (with_reducible first | refine AW.seq ?_ | refine AW.block ?_ | refine aThen_n ?_ | refine aBlk_n ?_ | refine AW.ret ?_ | refine aThen_r ?_ | refine aBlk_r ?_ | refine aops_done ?_ | refine AW.skip ?_ | refine AW.exit ?_ | refine aThen_e ?_ | refine aBlk_hit ?_ | refine AW.label ?_ | refine AW.scope ?_ | refine aNg_n ?_ | refine aNg_r ?_ | refine aNg_e ?_)
     | ((with_reducible refine AW.region ?_); with_reducible refine aops_run (by simp [List.replicate_succ]; first | exact rfl | exact ⟨rfl, rfl⟩) ?_)
     | ((with_reducible refine AW.draw mixedP ?_ ?_); (focus first | exact .inl rfl | exact .inr (by decide)); with_reducible refine adraw_go (by simp [List.replicate_succ]; first | exact rfl | exact ⟨rfl, rfl, rfl⟩) ?_)
     | (with_reducible refine adraw_done (by kernel_rfl) ?_)
     | ((with_reducible refine aBlk_miss ?_ ?_); focus decide)
     | ((with_reducible refine cond_t ?_ ?_); focus (simp [ev]; done))
     | ((with_reducible refine cond_f ?_ ?_); focus (simp [ev]; done)))
    (with_reducible first | refine aops_c (hcl) Try.func26 (by kernel_rfl) (by kernel_rfl) ?_ ?_ ?_ | refine adraw_c (hcl) Try.func26 (by kernel_rfl) (by kernel_rfl) ?_ ?_ ?_)
    focus (simp [gate]; done)
    focus (simp [pubCall]; done)
    first | (with_reducible refine aops_run (by simp [List.replicate_succ]; first | exact rfl | exact ⟨rfl, rfl⟩) ?_) | (with_reducible refine adraw_go (by simp [List.replicate_succ]; first | exact rfl | exact ⟨rfl, rfl, rfl⟩) ?_)
    repeat (first
     | (with_reducible first | refine AW.seq ?_ | refine AW.block ?_ | refine aThen_n ?_ | refine aBlk_n ?_ | refine AW.ret ?_ | refine aThen_r ?_ | refine aBlk_r ?_ | refine aops_done ?_ | refine AW.skip ?_ | refine AW.exit ?_ | refine aThen_e ?_ | refine aBlk_hit ?_ | refine AW.label ?_ | refine AW.scope ?_ | refine aNg_n ?_ | refine aNg_r ?_ | refine aNg_e ?_)
     | ((with_reducible refine AW.region ?_); with_reducible refine aops_run (by simp [List.replicate_succ]; first | exact rfl | exact ⟨rfl, rfl⟩) ?_)
     | ((with_reducible refine AW.draw mixedP ?_ ?_); (focus first | exact .inl rfl | exact .inr (by decide)); with_reducible refine adraw_go (by simp [List.replicate_succ]; first | exact rfl | exact ⟨rfl, rfl, rfl⟩) ?_)
     | (with_reducible refine adraw_done (by kernel_rfl) ?_)
     | ((with_reducible refine aBlk_miss ?_ ?_); focus decide)
     | ((with_reducible refine cond_t ?_ ?_); focus (simp [ev]; done))
     | ((with_reducible refine cond_f ?_ ?_); focus (simp [ev]; done)))
    simp [aRet, ares, aresL, ares1, V.pub, V.pubs, ldV, Try.results31]
  · have hR : findR f name need p = (Box.zero, checkR f p) := by unfold findR; rw [if_pos (by simp [hc])]
    have hR2 : chooseR f name need p = (⟨⟨#[]⟩, 0⟩, checkR f p) := by unfold chooseR; rw [if_pos (by simp [hc])]
    rw [hR]
    rw [hR2] at hch
    simp only [choiceEV, choiceV, errV] at hch
    refine AC.intro Try.func31 rfl ?_
    simp only [Try.ntmps31, List.map_cons, List.map_nil, List.length_cons, List.length_nil, Nat.reduceAdd, Nat.reduceSub, List.replicate_succ, List.replicate_zero, List.cons_append, List.nil_append]
    repeat (first
     | (with_reducible first | refine AW.seq ?_ | refine AW.block ?_ | refine aThen_n ?_ | refine aBlk_n ?_ | refine AW.ret ?_ | refine aThen_r ?_ | refine aBlk_r ?_ | refine aops_done ?_ | refine AW.skip ?_ | refine AW.exit ?_ | refine aThen_e ?_ | refine aBlk_hit ?_ | refine AW.label ?_ | refine AW.scope ?_ | refine aNg_n ?_ | refine aNg_r ?_ | refine aNg_e ?_)
     | ((with_reducible refine AW.region ?_); with_reducible refine aops_run (by simp [List.replicate_succ]; first | exact rfl | exact ⟨rfl, rfl⟩) ?_)
     | ((with_reducible refine AW.draw mixedP ?_ ?_); (focus first | exact .inl rfl | exact .inr (by decide)); with_reducible refine adraw_go (by simp [List.replicate_succ]; first | exact rfl | exact ⟨rfl, rfl, rfl⟩) ?_)
     | (with_reducible refine adraw_done (by kernel_rfl) ?_)
     | ((with_reducible refine aBlk_miss ?_ ?_); focus decide)
     | ((with_reducible refine cond_t ?_ ?_); focus (simp [ev]; done))
     | ((with_reducible refine cond_f ?_ ?_); focus (simp [ev]; done)))
    (with_reducible first | refine aops_c (hch) Try.func24 (by kernel_rfl) (by kernel_rfl) ?_ ?_ ?_ | refine adraw_c (hch) Try.func24 (by kernel_rfl) (by kernel_rfl) ?_ ?_ ?_)
    focus (simp [gate]; done)
    focus (simp [pubCall]; done)
    first | (with_reducible refine aops_run (by simp [List.replicate_succ]; first | exact rfl | exact ⟨rfl, rfl⟩) ?_) | (with_reducible refine adraw_go (by simp [List.replicate_succ]; first | exact rfl | exact ⟨rfl, rfl, rfl⟩) ?_)
    repeat (first
     | (with_reducible first | refine AW.seq ?_ | refine AW.block ?_ | refine aThen_n ?_ | refine aBlk_n ?_ | refine AW.ret ?_ | refine aThen_r ?_ | refine aBlk_r ?_ | refine aops_done ?_ | refine AW.skip ?_ | refine AW.exit ?_ | refine aThen_e ?_ | refine aBlk_hit ?_ | refine AW.label ?_ | refine AW.scope ?_ | refine aNg_n ?_ | refine aNg_r ?_ | refine aNg_e ?_)
     | ((with_reducible refine AW.region ?_); with_reducible refine aops_run (by simp [List.replicate_succ, hc]; first | exact rfl | exact ⟨rfl, rfl⟩) ?_)
     | ((with_reducible refine AW.draw mixedP ?_ ?_); (focus first | exact .inl rfl | exact .inr (by decide)); with_reducible refine adraw_go (by simp [List.replicate_succ, hc]; first | exact rfl | exact ⟨rfl, rfl, rfl⟩) ?_)
     | (with_reducible refine adraw_done (by kernel_rfl) ?_)
     | ((with_reducible refine aBlk_miss ?_ ?_); focus decide)
     | ((with_reducible refine cond_t ?_ ?_); focus (simp [ev, hc]; done))
     | ((with_reducible refine cond_f ?_ ?_); focus (simp [ev, hc]; done)))
    simp [aRet, ares, aresL, ares1, V.pub, V.pubs, ldV, Try.results31, errV, boxEV, boxV, Box.zero, Box.row, Box.rows, intsC]

end Go.Proofs.Ythbcljjpmdfflaa
