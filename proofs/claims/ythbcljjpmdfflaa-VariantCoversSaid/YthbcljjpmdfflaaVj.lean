/-
  variant.build, Box, Height, Find on the abstract machine, given what assembly returns.
-/
import Derived.Test.YthbcljjpmdfflaaVi
namespace Go.Proofs.Ythbcljjpmdfflaa
open Go.RowKit
set_option linter.unusedSimpArgs false
set_option linter.unusedVariables false
set_option maxRecDepth 100000

/-- what assembly returns -/
def AsmOk : Prop := ∀ (f : Font) (s : Stretch) (r p : Int), f.Fit → f.valid = true → s ∈ f.stretches → 1 ≤ r → r ≤ 1000 → 1 ≤ p → p ≤ 100 → s.parts ≠ [] → AC Try.prog 110 [.agg f.vs, stretchV s, .c (.int .i64 r), .c (.int .i64 p)] (boxEV (asmBox f s r p, 0))

theorem build_a (hasm : AsmOk) (f : Font) (name : ByteArray) (c : Choice) (p : Int) (hf : f.Fit) (hc : checkR f p = 0) : AC Try.prog 66 [.agg f.vs, .c (.str name), choiceV c, .c (.int .i64 p)] (boxEV (boxR f name c p)) := by
  obtain ⟨hv, hp1, hp2⟩ := check_zero hc
  obtain ⟨cg, cr⟩ := c
  have hk := known_a f name ⟨cg, cr⟩ hf hv
  simp only [choiceV] at hk ⊢
  cases hi : isR f name ⟨cg, cr⟩ with
  | false =>
    have hR : boxR f name ⟨cg, cr⟩ p = (Box.zero, 8) := by unfold boxR; rw [if_neg (by simp [hc]), if_pos hi]
    rw [hR]
    refine AC.intro Try.func66 rfl ?_
    simp only [Try.ntmps66, List.map_cons, List.map_nil, List.length_cons, List.length_nil, Nat.reduceAdd, Nat.reduceSub, List.replicate_succ, List.replicate_zero, List.cons_append, List.nil_append]
    repeat (first
     | (with_reducible first | refine AW.seq ?_ | refine AW.block ?_ | refine aThen_n ?_ | refine aBlk_n ?_ | refine AW.ret ?_ | refine aThen_r ?_ | refine aBlk_r ?_ | refine aops_done ?_ | refine AW.skip ?_ | refine AW.exit ?_ | refine aThen_e ?_ | refine aBlk_hit ?_ | refine AW.label ?_ | refine AW.scope ?_ | refine aNg_n ?_ | refine aNg_r ?_ | refine aNg_e ?_)
     | ((with_reducible refine AW.region ?_); with_reducible refine aops_run (by simp [List.replicate_succ]; first | exact rfl | exact ⟨rfl, rfl⟩) ?_)
     | ((with_reducible refine AW.draw mixedP ?_ ?_); (focus first | exact .inl rfl | exact .inr (by decide)); with_reducible refine adraw_go (by simp [List.replicate_succ]; first | exact rfl | exact ⟨rfl, rfl, rfl⟩) ?_)
     | (with_reducible refine adraw_done (by kernel_rfl) ?_)
     | ((with_reducible refine aBlk_miss ?_ ?_); focus decide)
     | ((with_reducible refine cond_t ?_ ?_); focus (simp [ev]; done))
     | ((with_reducible refine cond_f ?_ ?_); focus (simp [ev]; done)))
    (with_reducible first | refine aops_c (hk) Try.func108 (by kernel_rfl) (by kernel_rfl) ?_ ?_ ?_ | refine adraw_c (hk) Try.func108 (by kernel_rfl) (by kernel_rfl) ?_ ?_ ?_)
    focus (simp [gate, hi]; done)
    focus (simp [pubCall, hi]; done)
    first | (with_reducible refine aops_run (by simp [List.replicate_succ, hi]; first | exact rfl | exact ⟨rfl, rfl⟩) ?_) | (with_reducible refine adraw_go (by simp [List.replicate_succ, hi]; first | exact rfl | exact ⟨rfl, rfl, rfl⟩) ?_)
    repeat (first
     | (with_reducible first | refine AW.seq ?_ | refine AW.block ?_ | refine aThen_n ?_ | refine aBlk_n ?_ | refine AW.ret ?_ | refine aThen_r ?_ | refine aBlk_r ?_ | refine aops_done ?_ | refine AW.skip ?_ | refine AW.exit ?_ | refine aThen_e ?_ | refine aBlk_hit ?_ | refine AW.label ?_ | refine AW.scope ?_ | refine aNg_n ?_ | refine aNg_r ?_ | refine aNg_e ?_)
     | ((with_reducible refine AW.region ?_); with_reducible refine aops_run (by simp [List.replicate_succ]; first | exact rfl | exact ⟨rfl, rfl⟩) ?_)
     | ((with_reducible refine AW.draw mixedP ?_ ?_); (focus first | exact .inl rfl | exact .inr (by decide)); with_reducible refine adraw_go (by simp [List.replicate_succ]; first | exact rfl | exact ⟨rfl, rfl, rfl⟩) ?_)
     | (with_reducible refine adraw_done (by kernel_rfl) ?_)
     | ((with_reducible refine aBlk_miss ?_ ?_); focus decide)
     | ((with_reducible refine cond_t ?_ ?_); focus (simp [ev]; done))
     | ((with_reducible refine cond_f ?_ ?_); focus (simp [ev]; done)))
    simp [aRet, ares, aresL, ares1, V.pub, V.pubs, ldV, Try.results66, errV, boxEV, boxV, Box.zero, Box.row, Box.rows, intsC]
  | true =>
    by_cases h0 : cr = 0
    · subst h0
      have hR : boxR f name ⟨cg, 0⟩ p = fboxR f cg p := by
        unfold boxR fboxR
        rw [if_neg (by simp [hc]), if_neg (by simp [hi]), if_pos rfl, if_pos hv, (sizedR_eq hv hp1 hp2 cg).1]
      rw [hR]
      have hcl := fbox_a f cg p hf.gl
      obtain ⟨q, hq⟩ : ∃ q, fboxR f cg p = q := ⟨_, rfl⟩
      rw [hq] at hcl ⊢
      obtain ⟨⟨bk, bn, bs, bw, bh, bd, bx, by_, kids, bo, src⟩, e⟩ := q
      simp only [boxEV, errV, boxV, Box.row, List.map_cons, List.map_nil] at hcl ⊢
      refine AC.intro Try.func66 rfl ?_
      simp only [Try.ntmps66, List.map_cons, List.map_nil, List.length_cons, List.length_nil, Nat.reduceAdd, Nat.reduceSub, List.replicate_succ, List.replicate_zero, List.cons_append, List.nil_append]
      repeat (first
       | (with_reducible first | refine AW.seq ?_ | refine AW.block ?_ | refine aThen_n ?_ | refine aBlk_n ?_ | refine AW.ret ?_ | refine aThen_r ?_ | refine aBlk_r ?_ | refine aops_done ?_ | refine AW.skip ?_ | refine AW.exit ?_ | refine aThen_e ?_ | refine aBlk_hit ?_ | refine AW.label ?_ | refine AW.scope ?_ | refine aNg_n ?_ | refine aNg_r ?_ | refine aNg_e ?_)
       | ((with_reducible refine AW.region ?_); with_reducible refine aops_run (by simp [List.replicate_succ]; first | exact rfl | exact ⟨rfl, rfl⟩) ?_)
       | ((with_reducible refine AW.draw mixedP ?_ ?_); (focus first | exact .inl rfl | exact .inr (by decide)); with_reducible refine adraw_go (by simp [List.replicate_succ]; first | exact rfl | exact ⟨rfl, rfl, rfl⟩) ?_)
       | (with_reducible refine adraw_done (by kernel_rfl) ?_)
       | ((with_reducible refine aBlk_miss ?_ ?_); focus decide)
       | ((with_reducible refine cond_t ?_ ?_); focus (simp [ev]; done))
       | ((with_reducible refine cond_f ?_ ?_); focus (simp [ev]; done)))
      (with_reducible first | refine aops_c (hk) Try.func108 (by kernel_rfl) (by kernel_rfl) ?_ ?_ ?_ | refine adraw_c (hk) Try.func108 (by kernel_rfl) (by kernel_rfl) ?_ ?_ ?_)
      focus (simp [gate, hi]; done)
      focus (simp [pubCall, hi]; done)
      first | (with_reducible refine aops_run (by simp [List.replicate_succ, hi]; first | exact rfl | exact ⟨rfl, rfl⟩) ?_) | (with_reducible refine adraw_go (by simp [List.replicate_succ, hi]; first | exact rfl | exact ⟨rfl, rfl, rfl⟩) ?_)
      repeat (first
       | (with_reducible first | refine AW.seq ?_ | refine AW.block ?_ | refine aThen_n ?_ | refine aBlk_n ?_ | refine AW.ret ?_ | refine aThen_r ?_ | refine aBlk_r ?_ | refine aops_done ?_ | refine AW.skip ?_ | refine AW.exit ?_ | refine aThen_e ?_ | refine aBlk_hit ?_ | refine AW.label ?_ | refine AW.scope ?_ | refine aNg_n ?_ | refine aNg_r ?_ | refine aNg_e ?_)
       | ((with_reducible refine AW.region ?_); with_reducible refine aops_run (by simp [List.replicate_succ]; first | exact rfl | exact ⟨rfl, rfl⟩) ?_)
       | ((with_reducible refine AW.draw mixedP ?_ ?_); (focus first | exact .inl rfl | exact .inr (by decide)); with_reducible refine adraw_go (by simp [List.replicate_succ]; first | exact rfl | exact ⟨rfl, rfl, rfl⟩) ?_)
       | (with_reducible refine adraw_done (by kernel_rfl) ?_)
       | ((with_reducible refine aBlk_miss ?_ ?_); focus decide)
       | ((with_reducible refine cond_t ?_ ?_); focus (simp [ev]; done))
       | ((with_reducible refine cond_f ?_ ?_); focus (simp [ev]; done)))
      (with_reducible first | refine aops_c (hcl) Try.func109 (by kernel_rfl) (by kernel_rfl) ?_ ?_ ?_ | refine adraw_c (hcl) Try.func109 (by kernel_rfl) (by kernel_rfl) ?_ ?_ ?_)
      focus (simp [gate]; done)
      focus (simp [pubCall]; done)
      first | (with_reducible refine aops_run (by simp [List.replicate_succ]; first | exact rfl | exact ⟨rfl, rfl⟩) ?_) | (with_reducible refine adraw_go (by simp [List.replicate_succ]; first | exact rfl | exact ⟨rfl, rfl, rfl⟩) ?_)
      repeat (first
       | (with_reducible first | refine AW.seq ?_ | refine AW.block ?_ | refine aThen_n ?_ | refine aBlk_n ?_ | refine AW.ret ?_ | refine aThen_r ?_ | refine aBlk_r ?_ | refine aops_done ?_ | refine AW.skip ?_ | refine AW.exit ?_ | refine aThen_e ?_ | refine aBlk_hit ?_ | refine AW.label ?_ | refine AW.scope ?_ | refine aNg_n ?_ | refine aNg_r ?_ | refine aNg_e ?_)
       | ((with_reducible refine AW.region ?_); with_reducible refine aops_run (by simp [List.replicate_succ]; first | exact rfl | exact ⟨rfl, rfl⟩) ?_)
       | ((with_reducible refine AW.draw mixedP ?_ ?_); (focus first | exact .inl rfl | exact .inr (by decide)); with_reducible refine adraw_go (by simp [List.replicate_succ]; first | exact rfl | exact ⟨rfl, rfl, rfl⟩) ?_)
       | (with_reducible refine adraw_done (by kernel_rfl) ?_)
       | ((with_reducible refine aBlk_miss ?_ ?_); focus decide)
       | ((with_reducible refine cond_t ?_ ?_); focus (simp [ev]; done))
       | ((with_reducible refine cond_f ?_ ?_); focus (simp [ev]; done)))
      simp [aRet, ares, aresL, ares1, V.pub, V.pubs, ldV, Try.results66]
    · obtain ⟨s, hst, hpn, r1, r2, _⟩ := isR_rep h0 hi
      have hs := (stretchO_mem hst).1
      have hR : boxR f name ⟨cg, cr⟩ p = (asmBox f s cr p, 0) := by unfold boxR; rw [if_neg (by simp [hc]), if_neg (by simp [hi]), if_neg h0, hst]; rfl
      rw [hR]
      have hcl := hasm f s cr p hf hv hs r1 r2 hp1 hp2 hpn
      obtain ⟨b, hq⟩ : ∃ b, asmBox f s cr p = b := ⟨_, rfl⟩
      rw [hq] at hcl ⊢
      obtain ⟨bk, bn, bs, bw, bh, bd, bx, by_, kids, bo, src⟩ := b
      simp only [boxEV, errV, boxV, Box.row, List.map_cons, List.map_nil] at hcl ⊢
      refine AC.intro Try.func66 rfl ?_
      simp only [Try.ntmps66, List.map_cons, List.map_nil, List.length_cons, List.length_nil, Nat.reduceAdd, Nat.reduceSub, List.replicate_succ, List.replicate_zero, List.cons_append, List.nil_append]
      repeat (first
       | (with_reducible first | refine AW.seq ?_ | refine AW.block ?_ | refine aThen_n ?_ | refine aBlk_n ?_ | refine AW.ret ?_ | refine aThen_r ?_ | refine aBlk_r ?_ | refine aops_done ?_ | refine AW.skip ?_ | refine AW.exit ?_ | refine aThen_e ?_ | refine aBlk_hit ?_ | refine AW.label ?_ | refine AW.scope ?_ | refine aNg_n ?_ | refine aNg_r ?_ | refine aNg_e ?_)
       | ((with_reducible refine AW.region ?_); with_reducible refine aops_run (by simp [List.replicate_succ]; first | exact rfl | exact ⟨rfl, rfl⟩) ?_)
       | ((with_reducible refine AW.draw mixedP ?_ ?_); (focus first | exact .inl rfl | exact .inr (by decide)); with_reducible refine adraw_go (by simp [List.replicate_succ]; first | exact rfl | exact ⟨rfl, rfl, rfl⟩) ?_)
       | (with_reducible refine adraw_done (by kernel_rfl) ?_)
       | ((with_reducible refine aBlk_miss ?_ ?_); focus decide)
       | ((with_reducible refine cond_t ?_ ?_); focus (simp [ev]; done))
       | ((with_reducible refine cond_f ?_ ?_); focus (simp [ev]; done)))
      (with_reducible first | refine aops_c (hk) Try.func108 (by kernel_rfl) (by kernel_rfl) ?_ ?_ ?_ | refine adraw_c (hk) Try.func108 (by kernel_rfl) (by kernel_rfl) ?_ ?_ ?_)
      focus (simp [gate, hi]; done)
      focus (simp [pubCall, hi]; done)
      first | (with_reducible refine aops_run (by simp [List.replicate_succ, hi]; first | exact rfl | exact ⟨rfl, rfl⟩) ?_) | (with_reducible refine adraw_go (by simp [List.replicate_succ, hi]; first | exact rfl | exact ⟨rfl, rfl, rfl⟩) ?_)
      repeat (first
       | (with_reducible first | refine AW.seq ?_ | refine AW.block ?_ | refine aThen_n ?_ | refine aBlk_n ?_ | refine AW.ret ?_ | refine aThen_r ?_ | refine aBlk_r ?_ | refine aops_done ?_ | refine AW.skip ?_ | refine AW.exit ?_ | refine aThen_e ?_ | refine aBlk_hit ?_ | refine AW.label ?_ | refine AW.scope ?_ | refine aNg_n ?_ | refine aNg_r ?_ | refine aNg_e ?_)
       | ((with_reducible refine AW.region ?_); with_reducible refine aops_run (by simp [List.replicate_succ, h0]; first | exact rfl | exact ⟨rfl, rfl⟩) ?_)
       | ((with_reducible refine AW.draw mixedP ?_ ?_); (focus first | exact .inl rfl | exact .inr (by decide)); with_reducible refine adraw_go (by simp [List.replicate_succ, h0]; first | exact rfl | exact ⟨rfl, rfl, rfl⟩) ?_)
       | (with_reducible refine adraw_done (by kernel_rfl) ?_)
       | ((with_reducible refine aBlk_miss ?_ ?_); focus decide)
       | ((with_reducible refine cond_t ?_ ?_); focus (simp [ev, h0]; done))
       | ((with_reducible refine cond_f ?_ ?_); focus (simp [ev, h0]; done)))
      (with_reducible first | refine aops_c (vstretch_a f name hf hv) Try.func103 (by kernel_rfl) (by kernel_rfl) ?_ ?_ ?_ | refine adraw_c (vstretch_a f name hf hv) Try.func103 (by kernel_rfl) (by kernel_rfl) ?_ ?_ ?_)
      focus (simp [gate, foundS, stretchV, Stretch.row, hst]; done)
      focus (simp [pubCall, foundS, stretchV, Stretch.row, hst]; done)
      first | (with_reducible refine aops_run (by simp [List.replicate_succ, foundS, stretchV, Stretch.row, hst]; first | exact rfl | exact ⟨rfl, rfl⟩) ?_) | (with_reducible refine adraw_go (by simp [List.replicate_succ, foundS, stretchV, Stretch.row, hst]; first | exact rfl | exact ⟨rfl, rfl, rfl⟩) ?_)
      repeat (first
       | (with_reducible first | refine AW.seq ?_ | refine AW.block ?_ | refine aThen_n ?_ | refine aBlk_n ?_ | refine AW.ret ?_ | refine aThen_r ?_ | refine aBlk_r ?_ | refine aops_done ?_ | refine AW.skip ?_ | refine AW.exit ?_ | refine aThen_e ?_ | refine aBlk_hit ?_ | refine AW.label ?_ | refine AW.scope ?_ | refine aNg_n ?_ | refine aNg_r ?_ | refine aNg_e ?_)
       | ((with_reducible refine AW.region ?_); with_reducible refine aops_run (by simp [List.replicate_succ]; first | exact rfl | exact ⟨rfl, rfl⟩) ?_)
       | ((with_reducible refine AW.draw mixedP ?_ ?_); (focus first | exact .inl rfl | exact .inr (by decide)); with_reducible refine adraw_go (by simp [List.replicate_succ]; first | exact rfl | exact ⟨rfl, rfl, rfl⟩) ?_)
       | (with_reducible refine adraw_done (by kernel_rfl) ?_)
       | ((with_reducible refine aBlk_miss ?_ ?_); focus decide)
       | ((with_reducible refine cond_t ?_ ?_); focus (simp [ev]; done))
       | ((with_reducible refine cond_f ?_ ?_); focus (simp [ev]; done)))
      (with_reducible first | refine aops_c (hcl) Try.func110 (by kernel_rfl) (by kernel_rfl) ?_ ?_ ?_ | refine adraw_c (hcl) Try.func110 (by kernel_rfl) (by kernel_rfl) ?_ ?_ ?_)
      focus (simp [gate, stretchV, Stretch.row]; done)
      focus (simp [pubCall, stretchV, Stretch.row]; done)
      first | (with_reducible refine aops_run (by simp [List.replicate_succ, stretchV, Stretch.row]; first | exact rfl | exact ⟨rfl, rfl⟩) ?_) | (with_reducible refine adraw_go (by simp [List.replicate_succ, stretchV, Stretch.row]; first | exact rfl | exact ⟨rfl, rfl, rfl⟩) ?_)
      repeat (first
       | (with_reducible first | refine AW.seq ?_ | refine AW.block ?_ | refine aThen_n ?_ | refine aBlk_n ?_ | refine AW.ret ?_ | refine aThen_r ?_ | refine aBlk_r ?_ | refine aops_done ?_ | refine AW.skip ?_ | refine AW.exit ?_ | refine aThen_e ?_ | refine aBlk_hit ?_ | refine AW.label ?_ | refine AW.scope ?_ | refine aNg_n ?_ | refine aNg_r ?_ | refine aNg_e ?_)
       | ((with_reducible refine AW.region ?_); with_reducible refine aops_run (by simp [List.replicate_succ]; first | exact rfl | exact ⟨rfl, rfl⟩) ?_)
       | ((with_reducible refine AW.draw mixedP ?_ ?_); (focus first | exact .inl rfl | exact .inr (by decide)); with_reducible refine adraw_go (by simp [List.replicate_succ]; first | exact rfl | exact ⟨rfl, rfl, rfl⟩) ?_)
       | (with_reducible refine adraw_done (by kernel_rfl) ?_)
       | ((with_reducible refine aBlk_miss ?_ ?_); focus decide)
       | ((with_reducible refine cond_t ?_ ?_); focus (simp [ev]; done))
       | ((with_reducible refine cond_f ?_ ?_); focus (simp [ev]; done)))
      simp [aRet, ares, aresL, ares1, V.pub, V.pubs, ldV, Try.results66]

theorem vBox_a (hasm : AsmOk) (f : Font) (name : ByteArray) (c : Choice) (p : Int) (hf : f.Fit) : AC Try.prog 25 [.agg f.vs, .c (.str name), choiceV c, .c (.int .i64 p)] (boxEV (boxR f name c p)) := by
  obtain ⟨cg, cr⟩ := c
  by_cases hc : checkR f p = 0
  · have hcl := build_a hasm f name ⟨cg, cr⟩ p hf hc
    obtain ⟨q, hq⟩ : ∃ q, boxR f name ⟨cg, cr⟩ p = q := ⟨_, rfl⟩
    rw [hq] at hcl ⊢
    obtain ⟨⟨bk, bn, bs, bw, bh, bd, bx, by_, kids, bo, src⟩, e⟩ := q
    simp only [choiceV, boxEV, errV, boxV, Box.row, List.map_cons, List.map_nil] at hcl ⊢
    refine AC.intro Try.func25 rfl ?_
    simp only [Try.ntmps25, List.map_cons, List.map_nil, List.length_cons, List.length_nil, Nat.reduceAdd, Nat.reduceSub, List.replicate_succ, List.replicate_zero, List.cons_append, List.nil_append]
    repeat (first
     | (with_reducible first | refine AW.seq ?_ | refine AW.block ?_ | refine aThen_n ?_ | refine aBlk_n ?_ | refine AW.ret ?_ | refine aThen_r ?_ | refine aBlk_r ?_ | refine aops_done ?_ | refine AW.skip ?_ | refine AW.exit ?_ | refine aThen_e ?_ | refine aBlk_hit ?_ | refine AW.label ?_ | refine AW.scope ?_ | refine aNg_n ?_ | refine aNg_r ?_ | refine aNg_e ?_)
     | ((with_reducible refine AW.region ?_); with_reducible refine aops_run (by simp [List.replicate_succ]; first | exact rfl | exact ⟨rfl, rfl⟩) ?_)
     | ((with_reducible refine AW.draw mixedP ?_ ?_); (focus first | exact .inl rfl | exact .inr (by decide)); with_reducible refine adraw_go (by simp [List.replicate_succ]; first | exact rfl | exact ⟨rfl, rfl, rfl⟩) ?_)
     | (with_reducible refine adraw_done (by kernel_rfl) ?_)
     | ((with_reducible refine aBlk_miss ?_ ?_); focus decide)
     | ((with_reducible refine cond_t ?_ ?_); focus (simp [ev]; done))
     | ((with_reducible refine cond_f ?_ ?_); focus (simp [ev]; done)))
    (with_reducible first | refine aops_c (vcheck_a f p) Try.func60 (by kernel_rfl) (by kernel_rfl) ?_ ?_ ?_ | refine adraw_c (vcheck_a f p) Try.func60 (by kernel_rfl) (by kernel_rfl) ?_ ?_ ?_)
    focus (simp [gate, hc, errV]; done)
    focus (simp [pubCall, hc, errV]; done)
    first | (with_reducible refine aops_run (by simp [List.replicate_succ, hc, errV]; first | exact rfl | exact ⟨rfl, rfl⟩) ?_) | (with_reducible refine adraw_go (by simp [List.replicate_succ, hc, errV]; first | exact rfl | exact ⟨rfl, rfl, rfl⟩) ?_)
    repeat (first
     | (with_reducible first | refine AW.seq ?_ | refine AW.block ?_ | refine aThen_n ?_ | refine aBlk_n ?_ | refine AW.ret ?_ | refine aThen_r ?_ | refine aBlk_r ?_ | refine aops_done ?_ | refine AW.skip ?_ | refine AW.exit ?_ | refine aThen_e ?_ | refine aBlk_hit ?_ | refine AW.label ?_ | refine AW.scope ?_ | refine aNg_n ?_ | refine aNg_r ?_ | refine aNg_e ?_)
     | ((with_reducible refine AW.region ?_); with_reducible refine aops_run (by simp [List.replicate_succ]; first | exact rfl | exact ⟨rfl, rfl⟩) ?_)
     | ((with_reducible refine AW.draw mixedP ?_ ?_); (focus first | exact .inl rfl | exact .inr (by decide)); with_reducible refine adraw_go (by simp [List.replicate_succ]; first | exact rfl | exact ⟨rfl, rfl, rfl⟩) ?_)
     | (with_reducible refine adraw_done (by kernel_rfl) ?_)
     | ((with_reducible refine aBlk_miss ?_ ?_); focus decide)
     | ((with_reducible refine cond_t ?_ ?_); focus (simp [ev]; done))
     | ((with_reducible refine cond_f ?_ ?_); focus (simp [ev]; done)))
    (with_reducible first | refine aops_c (hcl) Try.func66 (by kernel_rfl) (by kernel_rfl) ?_ ?_ ?_ | refine adraw_c (hcl) Try.func66 (by kernel_rfl) (by kernel_rfl) ?_ ?_ ?_)
    focus (simp [gate]; done)
    focus (simp [pubCall]; done)
    first | (with_reducible refine aops_run (by simp [List.replicate_succ]; first | exact rfl | exact ⟨rfl, rfl⟩) ?_) | (with_reducible refine adraw_go (by simp [List.replicate_succ]; first | exact rfl | exact ⟨rfl, rfl, rfl⟩) ?_)
    repeat (first
     | (with_reducible first | refine AW.seq ?_ | refine AW.block ?_ | refine aThen_n ?_ | refine aBlk_n ?_ | refine AW.ret ?_ | refine aThen_r ?_ | refine aBlk_r ?_ | refine aops_done ?_ | refine AW.skip ?_ | refine AW.exit ?_ | refine aThen_e ?_ | refine aBlk_hit ?_ | refine AW.label ?_ | refine AW.scope ?_ | refine aNg_n ?_ | refine aNg_r ?_ | refine aNg_e ?_)
     | ((with_reducible refine AW.region ?_); with_reducible refine aops_run (by simp [List.replicate_succ]; first | exact rfl | exact ⟨rfl, rfl⟩) ?_)
     | ((with_reducible refine AW.draw mixedP ?_ ?_); (focus first | exact .inl rfl | exact .inr (by decide)); with_reducible refine adraw_go (by simp [List.replicate_succ]; first | exact rfl | exact ⟨rfl, rfl, rfl⟩) ?_)
     | (with_reducible refine adraw_done (by kernel_rfl) ?_)
     | ((with_reducible refine aBlk_miss ?_ ?_); focus decide)
     | ((with_reducible refine cond_t ?_ ?_); focus (simp [ev]; done))
     | ((with_reducible refine cond_f ?_ ?_); focus (simp [ev]; done)))
    simp [aRet, ares, aresL, ares1, V.pub, V.pubs, ldV, Try.results25]
  · have hR : boxR f name ⟨cg, cr⟩ p = (Box.zero, checkR f p) := by unfold boxR; rw [if_pos (by simp [hc])]
    rw [hR]
    unfold choiceV
    refine AC.intro Try.func25 rfl ?_
    simp only [Try.ntmps25, List.map_cons, List.map_nil, List.length_cons, List.length_nil, Nat.reduceAdd, Nat.reduceSub, List.replicate_succ, List.replicate_zero, List.cons_append, List.nil_append]
    repeat (first
     | (with_reducible first | refine AW.seq ?_ | refine AW.block ?_ | refine aThen_n ?_ | refine aBlk_n ?_ | refine AW.ret ?_ | refine aThen_r ?_ | refine aBlk_r ?_ | refine aops_done ?_ | refine AW.skip ?_ | refine AW.exit ?_ | refine aThen_e ?_ | refine aBlk_hit ?_ | refine AW.label ?_ | refine AW.scope ?_ | refine aNg_n ?_ | refine aNg_r ?_ | refine aNg_e ?_)
     | ((with_reducible refine AW.region ?_); with_reducible refine aops_run (by simp [List.replicate_succ]; first | exact rfl | exact ⟨rfl, rfl⟩) ?_)
     | ((with_reducible refine AW.draw mixedP ?_ ?_); (focus first | exact .inl rfl | exact .inr (by decide)); with_reducible refine adraw_go (by simp [List.replicate_succ]; first | exact rfl | exact ⟨rfl, rfl, rfl⟩) ?_)
     | (with_reducible refine adraw_done (by kernel_rfl) ?_)
     | ((with_reducible refine aBlk_miss ?_ ?_); focus decide)
     | ((with_reducible refine cond_t ?_ ?_); focus (simp [ev]; done))
     | ((with_reducible refine cond_f ?_ ?_); focus (simp [ev]; done)))
    (with_reducible first | refine aops_c (vcheck_a f p) Try.func60 (by kernel_rfl) (by kernel_rfl) ?_ ?_ ?_ | refine adraw_c (vcheck_a f p) Try.func60 (by kernel_rfl) (by kernel_rfl) ?_ ?_ ?_)
    focus (simp [gate, errV]; done)
    focus (simp [pubCall, errV]; done)
    first | (with_reducible refine aops_run (by simp [List.replicate_succ, errV]; first | exact rfl | exact ⟨rfl, rfl⟩) ?_) | (with_reducible refine adraw_go (by simp [List.replicate_succ, errV]; first | exact rfl | exact ⟨rfl, rfl, rfl⟩) ?_)
    repeat (first
     | (with_reducible first | refine AW.seq ?_ | refine AW.block ?_ | refine aThen_n ?_ | refine aBlk_n ?_ | refine AW.ret ?_ | refine aThen_r ?_ | refine aBlk_r ?_ | refine aops_done ?_ | refine AW.skip ?_ | refine AW.exit ?_ | refine aThen_e ?_ | refine aBlk_hit ?_ | refine AW.label ?_ | refine AW.scope ?_ | refine aNg_n ?_ | refine aNg_r ?_ | refine aNg_e ?_)
     | ((with_reducible refine AW.region ?_); with_reducible refine aops_run (by simp [List.replicate_succ, hc]; first | exact rfl | exact ⟨rfl, rfl⟩) ?_)
     | ((with_reducible refine AW.draw mixedP ?_ ?_); (focus first | exact .inl rfl | exact .inr (by decide)); with_reducible refine adraw_go (by simp [List.replicate_succ, hc]; first | exact rfl | exact ⟨rfl, rfl, rfl⟩) ?_)
     | (with_reducible refine adraw_done (by kernel_rfl) ?_)
     | ((with_reducible refine aBlk_miss ?_ ?_); focus decide)
     | ((with_reducible refine cond_t ?_ ?_); focus (simp [ev, hc]; done))
     | ((with_reducible refine cond_f ?_ ?_); focus (simp [ev, hc]; done)))
    simp [aRet, ares, aresL, ares1, V.pub, V.pubs, ldV, Try.results25, errV, boxEV, boxV, Box.zero, Box.row, Box.rows, intsC]

theorem vFind_a (hasm : AsmOk) (f : Font) (name : ByteArray) (need p : Int) (hf : f.Fit) : AC Try.prog 30 [.agg f.vs, .c (.str name), .c (.int .i64 need), .c (.int .i64 p)] (boxEV (findR f name need p)) := by
  by_cases hc : checkR f p = 0
  · obtain ⟨hv, hp1, hp2⟩ := check_zero hc
    have hR : findR f name need p = boxR f name (chooseI f name need p) p := by unfold findR; rw [if_neg (by simp [hc])]
    rw [hR]
    have hch := vchoose_a f name need p hf hv hp1 hp2
    obtain ⟨c, hcc⟩ : ∃ c, chooseI f name need p = c := ⟨_, rfl⟩
    rw [hcc] at hch ⊢
    obtain ⟨cg, cr⟩ := c
    have hcl := build_a hasm f name ⟨cg, cr⟩ p hf hc
    obtain ⟨q, hq⟩ : ∃ q, boxR f name ⟨cg, cr⟩ p = q := ⟨_, rfl⟩
    rw [hq] at hcl ⊢
    obtain ⟨⟨bk, bn, bs, bw, bh, bd, bx, by_, kids, bo, src⟩, e⟩ := q
    simp only [choiceV, boxEV, errV, boxV, Box.row, List.map_cons, List.map_nil] at hch hcl ⊢
    refine AC.intro Try.func30 rfl ?_
    simp only [Try.ntmps30, List.map_cons, List.map_nil, List.length_cons, List.length_nil, Nat.reduceAdd, Nat.reduceSub, List.replicate_succ, List.replicate_zero, List.cons_append, List.nil_append]
    repeat (first
     | (with_reducible first | refine AW.seq ?_ | refine AW.block ?_ | refine aThen_n ?_ | refine aBlk_n ?_ | refine AW.ret ?_ | refine aThen_r ?_ | refine aBlk_r ?_ | refine aops_done ?_ | refine AW.skip ?_ | refine AW.exit ?_ | refine aThen_e ?_ | refine aBlk_hit ?_ | refine AW.label ?_ | refine AW.scope ?_ | refine aNg_n ?_ | refine aNg_r ?_ | refine aNg_e ?_)
     | ((with_reducible refine AW.region ?_); with_reducible refine aops_run (by simp [List.replicate_succ]; first | exact rfl | exact ⟨rfl, rfl⟩) ?_)
     | ((with_reducible refine AW.draw mixedP ?_ ?_); (focus first | exact .inl rfl | exact .inr (by decide)); with_reducible refine adraw_go (by simp [List.replicate_succ]; first | exact rfl | exact ⟨rfl, rfl, rfl⟩) ?_)
     | (with_reducible refine adraw_done (by kernel_rfl) ?_)
     | ((with_reducible refine aBlk_miss ?_ ?_); focus decide)
     | ((with_reducible refine cond_t ?_ ?_); focus (simp [ev]; done))
     | ((with_reducible refine cond_f ?_ ?_); focus (simp [ev]; done)))
    (with_reducible first | refine aops_c (vcheck_a f p) Try.func60 (by kernel_rfl) (by kernel_rfl) ?_ ?_ ?_ | refine adraw_c (vcheck_a f p) Try.func60 (by kernel_rfl) (by kernel_rfl) ?_ ?_ ?_)
    focus (simp [gate, hc, errV]; done)
    focus (simp [pubCall, hc, errV]; done)
    first | (with_reducible refine aops_run (by simp [List.replicate_succ, hc, errV]; first | exact rfl | exact ⟨rfl, rfl⟩) ?_) | (with_reducible refine adraw_go (by simp [List.replicate_succ, hc, errV]; first | exact rfl | exact ⟨rfl, rfl, rfl⟩) ?_)
    repeat (first
     | (with_reducible first | refine AW.seq ?_ | refine AW.block ?_ | refine aThen_n ?_ | refine aBlk_n ?_ | refine AW.ret ?_ | refine aThen_r ?_ | refine aBlk_r ?_ | refine aops_done ?_ | refine AW.skip ?_ | refine AW.exit ?_ | refine aThen_e ?_ | refine aBlk_hit ?_ | refine AW.label ?_ | refine AW.scope ?_ | refine aNg_n ?_ | refine aNg_r ?_ | refine aNg_e ?_)
     | ((with_reducible refine AW.region ?_); with_reducible refine aops_run (by simp [List.replicate_succ]; first | exact rfl | exact ⟨rfl, rfl⟩) ?_)
     | ((with_reducible refine AW.draw mixedP ?_ ?_); (focus first | exact .inl rfl | exact .inr (by decide)); with_reducible refine adraw_go (by simp [List.replicate_succ]; first | exact rfl | exact ⟨rfl, rfl, rfl⟩) ?_)
     | (with_reducible refine adraw_done (by kernel_rfl) ?_)
     | ((with_reducible refine aBlk_miss ?_ ?_); focus decide)
     | ((with_reducible refine cond_t ?_ ?_); focus (simp [ev]; done))
     | ((with_reducible refine cond_f ?_ ?_); focus (simp [ev]; done)))
    (with_reducible first | refine aops_c (hch) Try.func61 (by kernel_rfl) (by kernel_rfl) ?_ ?_ ?_ | refine adraw_c (hch) Try.func61 (by kernel_rfl) (by kernel_rfl) ?_ ?_ ?_)
    focus (simp [gate]; done)
    focus (simp [pubCall]; done)
    first | (with_reducible refine aops_run (by simp [List.replicate_succ]; first | exact rfl | exact ⟨rfl, rfl⟩) ?_) | (with_reducible refine adraw_go (by simp [List.replicate_succ]; first | exact rfl | exact ⟨rfl, rfl, rfl⟩) ?_)
    (with_reducible first | refine aops_c (hcl) Try.func66 (by kernel_rfl) (by kernel_rfl) ?_ ?_ ?_ | refine adraw_c (hcl) Try.func66 (by kernel_rfl) (by kernel_rfl) ?_ ?_ ?_)
    focus (simp [gate]; done)
    focus (simp [pubCall]; done)
    first | (with_reducible refine aops_run (by simp [List.replicate_succ]; first | exact rfl | exact ⟨rfl, rfl⟩) ?_) | (with_reducible refine adraw_go (by simp [List.replicate_succ]; first | exact rfl | exact ⟨rfl, rfl, rfl⟩) ?_)
    repeat (first
     | (with_reducible first | refine AW.seq ?_ | refine AW.block ?_ | refine aThen_n ?_ | refine aBlk_n ?_ | refine AW.ret ?_ | refine aThen_r ?_ | refine aBlk_r ?_ | refine aops_done ?_ | refine AW.skip ?_ | refine AW.exit ?_ | refine aThen_e ?_ | refine aBlk_hit ?_ | refine AW.label ?_ | refine AW.scope ?_ | refine aNg_n ?_ | refine aNg_r ?_ | refine aNg_e ?_)
     | ((with_reducible refine AW.region ?_); with_reducible refine aops_run (by simp [List.replicate_succ]; first | exact rfl | exact ⟨rfl, rfl⟩) ?_)
     | ((with_reducible refine AW.draw mixedP ?_ ?_); (focus first | exact .inl rfl | exact .inr (by decide)); with_reducible refine adraw_go (by simp [List.replicate_succ]; first | exact rfl | exact ⟨rfl, rfl, rfl⟩) ?_)
     | (with_reducible refine adraw_done (by kernel_rfl) ?_)
     | ((with_reducible refine aBlk_miss ?_ ?_); focus decide)
     | ((with_reducible refine cond_t ?_ ?_); focus (simp [ev]; done))
     | ((with_reducible refine cond_f ?_ ?_); focus (simp [ev]; done)))
    simp [aRet, ares, aresL, ares1, V.pub, V.pubs, ldV, Try.results30]
  · have hR : findR f name need p = (Box.zero, checkR f p) := by unfold findR; rw [if_pos (by simp [hc])]
    rw [hR]
    refine AC.intro Try.func30 rfl ?_
    simp only [Try.ntmps30, List.map_cons, List.map_nil, List.length_cons, List.length_nil, Nat.reduceAdd, Nat.reduceSub, List.replicate_succ, List.replicate_zero, List.cons_append, List.nil_append]
    repeat (first
     | (with_reducible first | refine AW.seq ?_ | refine AW.block ?_ | refine aThen_n ?_ | refine aBlk_n ?_ | refine AW.ret ?_ | refine aThen_r ?_ | refine aBlk_r ?_ | refine aops_done ?_ | refine AW.skip ?_ | refine AW.exit ?_ | refine aThen_e ?_ | refine aBlk_hit ?_ | refine AW.label ?_ | refine AW.scope ?_ | refine aNg_n ?_ | refine aNg_r ?_ | refine aNg_e ?_)
     | ((with_reducible refine AW.region ?_); with_reducible refine aops_run (by simp [List.replicate_succ]; first | exact rfl | exact ⟨rfl, rfl⟩) ?_)
     | ((with_reducible refine AW.draw mixedP ?_ ?_); (focus first | exact .inl rfl | exact .inr (by decide)); with_reducible refine adraw_go (by simp [List.replicate_succ]; first | exact rfl | exact ⟨rfl, rfl, rfl⟩) ?_)
     | (with_reducible refine adraw_done (by kernel_rfl) ?_)
     | ((with_reducible refine aBlk_miss ?_ ?_); focus decide)
     | ((with_reducible refine cond_t ?_ ?_); focus (simp [ev]; done))
     | ((with_reducible refine cond_f ?_ ?_); focus (simp [ev]; done)))
    (with_reducible first | refine aops_c (vcheck_a f p) Try.func60 (by kernel_rfl) (by kernel_rfl) ?_ ?_ ?_ | refine adraw_c (vcheck_a f p) Try.func60 (by kernel_rfl) (by kernel_rfl) ?_ ?_ ?_)
    focus (simp [gate, errV]; done)
    focus (simp [pubCall, errV]; done)
    first | (with_reducible refine aops_run (by simp [List.replicate_succ, errV]; first | exact rfl | exact ⟨rfl, rfl⟩) ?_) | (with_reducible refine adraw_go (by simp [List.replicate_succ, errV]; first | exact rfl | exact ⟨rfl, rfl, rfl⟩) ?_)
    repeat (first
     | (with_reducible first | refine AW.seq ?_ | refine AW.block ?_ | refine aThen_n ?_ | refine aBlk_n ?_ | refine AW.ret ?_ | refine aThen_r ?_ | refine aBlk_r ?_ | refine aops_done ?_ | refine AW.skip ?_ | refine AW.exit ?_ | refine aThen_e ?_ | refine aBlk_hit ?_ | refine AW.label ?_ | refine AW.scope ?_ | refine aNg_n ?_ | refine aNg_r ?_ | refine aNg_e ?_)
     | ((with_reducible refine AW.region ?_); with_reducible refine aops_run (by simp [List.replicate_succ, hc]; first | exact rfl | exact ⟨rfl, rfl⟩) ?_)
     | ((with_reducible refine AW.draw mixedP ?_ ?_); (focus first | exact .inl rfl | exact .inr (by decide)); with_reducible refine adraw_go (by simp [List.replicate_succ, hc]; first | exact rfl | exact ⟨rfl, rfl, rfl⟩) ?_)
     | (with_reducible refine adraw_done (by kernel_rfl) ?_)
     | ((with_reducible refine aBlk_miss ?_ ?_); focus decide)
     | ((with_reducible refine cond_t ?_ ?_); focus (simp [ev, hc]; done))
     | ((with_reducible refine cond_f ?_ ?_); focus (simp [ev, hc]; done)))
    simp [aRet, ares, aresL, ares1, V.pub, V.pubs, ldV, Try.results30, errV, boxEV, boxV, Box.zero, Box.row, Box.rows, intsC]
end Go.Proofs.Ythbcljjpmdfflaa
