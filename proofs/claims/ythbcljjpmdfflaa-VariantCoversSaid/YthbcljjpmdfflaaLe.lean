/-
  Layer 6's laws: VariantCovers.
-/
import Derived.Test.YthbcljjpmdfflaaLk
namespace Go.Proofs.Ythbcljjpmdfflaa
open Go.RowKit
set_option linter.unusedSimpArgs false
set_option linter.unusedVariables false
set_option maxRecDepth 100000

theorem lcovers_0 (f : Font) (name : ByteArray) (n p : Int) (hf : f.Fit) (hS : smallB f n p = false) : AC Try.prog 6 [.agg f.vs, .c (.str name), .agg [.c (.int .i64 n), .c (.int .i64 p)]] (.c (.bool true)) := by
  have hsm := small_a f n p hf
  rw [hS] at hsm
  refine AC.intro Try.func6 rfl ?_
  simp only [Try.ntmps6, List.map_cons, List.map_nil, List.length_cons, List.length_nil, Nat.reduceAdd, Nat.reduceSub, List.replicate_succ, List.replicate_zero, List.cons_append, List.nil_append]
  repeat (first
   | (with_reducible first | refine AW.seq ?_ | refine AW.block ?_ | refine aThen_n ?_ | refine aBlk_n ?_ | refine AW.ret ?_ | refine aThen_r ?_ | refine aBlk_r ?_ | refine aops_done ?_ | refine AW.skip ?_ | refine AW.exit ?_ | refine aThen_e ?_ | refine aBlk_hit ?_ | refine AW.label ?_ | refine AW.scope ?_ | refine aNg_n ?_ | refine aNg_r ?_ | refine aNg_e ?_)
   | ((with_reducible refine AW.region ?_); with_reducible refine aops_run (by simp [List.replicate_succ]; first | exact rfl | exact ⟨rfl, rfl⟩) ?_)
   | ((with_reducible refine AW.draw mixedP ?_ ?_); (focus first | exact .inl rfl | exact .inr (by decide)); with_reducible refine adraw_go (by simp [List.replicate_succ]; first | exact rfl | exact ⟨rfl, rfl, rfl⟩) ?_)
   | (with_reducible refine adraw_done (by kernel_rfl) ?_)
   | ((with_reducible refine aBlk_miss ?_ ?_); focus decide)
   | ((with_reducible refine cond_t ?_ ?_); focus (simp [ev]; done))
   | ((with_reducible refine cond_f ?_ ?_); focus (simp [ev]; done)))
  (with_reducible first | refine aops_c (awake_a) Try.func21 (by kernel_rfl) (by kernel_rfl) ?_ ?_ ?_ | refine adraw_c (awake_a) Try.func21 (by kernel_rfl) (by kernel_rfl) ?_ ?_ ?_)
  focus (simp [gate]; done)
  focus (simp [pubCall]; done)
  first | (with_reducible refine aops_run (by simp [List.replicate_succ]; first | exact rfl | exact ⟨rfl, rfl⟩) ?_) | (with_reducible refine adraw_go (by simp [List.replicate_succ]; first | exact rfl | exact ⟨rfl, rfl, rfl⟩) ?_)
  repeat (first
   | (with_reducible first | refine AW.seq ?_ | refine AW.block ?_ | refine aThen_n ?_ | refine aBlk_n ?_ | refine AW.ret ?_ | refine aThen_r ?_ | refine aBlk_r ?_ | refine aops_done ?_ | refine AW.skip ?_ | refine AW.exit ?_ | refine aThen_e ?_ | refine aBlk_hit ?_ | refine AW.label ?_ | refine AW.scope ?_ | refine aNg_n ?_ | refine aNg_r ?_ | refine aNg_e ?_)
   | ((with_reducible refine AW.region ?_); with_reducible refine aops_run (by simp [List.replicate_succ]; first | exact rfl | exact ⟨rfl, rfl⟩) ?_)
   | ((with_reducible refine AW.draw mixedP ?_ ?_); (focus first | exact .inl rfl | exact .inr (by decide)); with_reducible refine adraw_go (by simp [List.replicate_succ]; first | exact rfl | exact ⟨rfl, rfl, rfl⟩) ?_)
   | (with_reducible refine adraw_done (by kernel_rfl) ?_)
   | ((with_reducible refine aBlk_miss ?_ ?_); focus decide)
   | ((with_reducible refine cond_t ?_ ?_); focus (simp [ev]; done))
   | ((with_reducible refine cond_f ?_ ?_); focus (simp [ev]; done)))
  (with_reducible first | refine aops_c (hsm) Try.func32 (by kernel_rfl) (by kernel_rfl) ?_ ?_ ?_ | refine adraw_c (hsm) Try.func32 (by kernel_rfl) (by kernel_rfl) ?_ ?_ ?_)
  focus (simp [gate]; done)
  focus (simp [pubCall]; done)
  first | (with_reducible refine aops_run (by simp [List.replicate_succ]; first | exact rfl | exact ⟨rfl, rfl⟩) ?_) | (with_reducible refine adraw_go (by simp [List.replicate_succ]; first | exact rfl | exact ⟨rfl, rfl, rfl⟩) ?_)
  repeat (first
   | (with_reducible first | refine AW.seq ?_ | refine AW.block ?_ | refine aThen_n ?_ | refine aBlk_n ?_ | refine AW.ret ?_ | refine aThen_r ?_ | refine aBlk_r ?_ | refine aops_done ?_ | refine AW.skip ?_ | refine AW.exit ?_ | refine aThen_e ?_ | refine aBlk_hit ?_ | refine AW.label ?_ | refine AW.scope ?_ | refine aNg_n ?_ | refine aNg_r ?_ | refine aNg_e ?_)
   | ((with_reducible refine AW.region ?_); with_reducible refine aops_run (by simp [List.replicate_succ]; first | exact rfl | exact ⟨rfl, rfl⟩) ?_)
   | ((with_reducible refine AW.draw mixedP ?_ ?_); (focus first | exact .inl rfl | exact .inr (by decide)); with_reducible refine adraw_go (by simp [List.replicate_succ]; first | exact rfl | exact ⟨rfl, rfl, rfl⟩) ?_)
   | (with_reducible refine adraw_done (by kernel_rfl) ?_)
   | ((with_reducible refine aBlk_miss ?_ ?_); focus decide)
   | ((with_reducible refine cond_t ?_ ?_); focus (simp [ev]; done))
   | ((with_reducible refine cond_f ?_ ?_); focus (simp [ev]; done)))
  simp [aRet, ares, aresL, ares1, V.pub, V.pubs, ldV, Try.results6]
theorem lcovers_n (f : Font) (name : ByteArray) (n p : Int) (hf : f.Fit) (hS : smallB f n p = true) (hst : f.stretch name = none) : AC Try.prog 6 [.agg f.vs, .c (.str name), .agg [.c (.int .i64 n), .c (.int .i64 p)]] (.c (.bool true)) := by
  have hsm := small_a f n p hf
  rw [hS] at hsm
  obtain ⟨hw, hv, hp1, hp2, hn, hc⟩ := small_true hS
  obtain ⟨f1, f2, f3, f4⟩ := find_height hc name n
  have h1 := vFind_a vasm_a f name n p hf
  have hrs := rstretch_a f name hf.sl
  obtain ⟨q, hq⟩ : ∃ q, findR f name n p = q := ⟨_, rfl⟩
  obtain ⟨hh, hhh⟩ : ∃ x, foundH f name n p = x := ⟨_, rfl⟩
  rw [hq] at h1 f1 f2
  rw [hhh] at f2 f3 f4
  obtain ⟨⟨bk, bn, bs, bw, bh, bd, bx, by_, kids, bo, src⟩, e⟩ := q
  simp only [boxEV, errV, boxV, Box.row, List.map_cons, List.map_nil] at h1 f1 f2
  subst f1
  have hwr : IntKind.i64.wrap (bh + bd) = hh := by rw [f2]; exact wrap_i64 (by omega) (by omega)
  refine AC.intro Try.func6 rfl ?_
  simp only [Try.ntmps6, List.map_cons, List.map_nil, List.length_cons, List.length_nil, Nat.reduceAdd, Nat.reduceSub, List.replicate_succ, List.replicate_zero, List.cons_append, List.nil_append]
  repeat (first
   | (with_reducible first | refine AW.seq ?_ | refine AW.block ?_ | refine aThen_n ?_ | refine aBlk_n ?_ | refine AW.ret ?_ | refine aThen_r ?_ | refine aBlk_r ?_ | refine aops_done ?_ | refine AW.skip ?_ | refine AW.exit ?_ | refine aThen_e ?_ | refine aBlk_hit ?_ | refine AW.label ?_ | refine AW.scope ?_ | refine aNg_n ?_ | refine aNg_r ?_ | refine aNg_e ?_)
   | ((with_reducible refine AW.region ?_); with_reducible refine aops_run (by simp [List.replicate_succ]; first | exact rfl | exact ⟨rfl, rfl⟩) ?_)
   | ((with_reducible refine AW.draw mixedP ?_ ?_); (focus first | exact .inl rfl | exact .inr (by decide)); with_reducible refine adraw_go (by simp [List.replicate_succ]; first | exact rfl | exact ⟨rfl, rfl, rfl⟩) ?_)
   | (with_reducible refine adraw_done (by kernel_rfl) ?_)
   | ((with_reducible refine aBlk_miss ?_ ?_); focus decide)
   | ((with_reducible refine cond_t ?_ ?_); focus (simp [ev]; done))
   | ((with_reducible refine cond_f ?_ ?_); focus (simp [ev]; done)))
  (with_reducible first | refine aops_c (awake_a) Try.func21 (by kernel_rfl) (by kernel_rfl) ?_ ?_ ?_ | refine adraw_c (awake_a) Try.func21 (by kernel_rfl) (by kernel_rfl) ?_ ?_ ?_)
  focus (simp [gate]; done)
  focus (simp [pubCall]; done)
  first | (with_reducible refine aops_run (by simp [List.replicate_succ]; first | exact rfl | exact ⟨rfl, rfl⟩) ?_) | (with_reducible refine adraw_go (by simp [List.replicate_succ]; first | exact rfl | exact ⟨rfl, rfl, rfl⟩) ?_)
  repeat (first
   | (with_reducible first | refine AW.seq ?_ | refine AW.block ?_ | refine aThen_n ?_ | refine aBlk_n ?_ | refine AW.ret ?_ | refine aThen_r ?_ | refine aBlk_r ?_ | refine aops_done ?_ | refine AW.skip ?_ | refine AW.exit ?_ | refine aThen_e ?_ | refine aBlk_hit ?_ | refine AW.label ?_ | refine AW.scope ?_ | refine aNg_n ?_ | refine aNg_r ?_ | refine aNg_e ?_)
   | ((with_reducible refine AW.region ?_); with_reducible refine aops_run (by simp [List.replicate_succ]; first | exact rfl | exact ⟨rfl, rfl⟩) ?_)
   | ((with_reducible refine AW.draw mixedP ?_ ?_); (focus first | exact .inl rfl | exact .inr (by decide)); with_reducible refine adraw_go (by simp [List.replicate_succ]; first | exact rfl | exact ⟨rfl, rfl, rfl⟩) ?_)
   | (with_reducible refine adraw_done (by kernel_rfl) ?_)
   | ((with_reducible refine aBlk_miss ?_ ?_); focus decide)
   | ((with_reducible refine cond_t ?_ ?_); focus (simp [ev]; done))
   | ((with_reducible refine cond_f ?_ ?_); focus (simp [ev]; done)))
  (with_reducible first | refine aops_c (hsm) Try.func32 (by kernel_rfl) (by kernel_rfl) ?_ ?_ ?_ | refine adraw_c (hsm) Try.func32 (by kernel_rfl) (by kernel_rfl) ?_ ?_ ?_)
  focus (simp [gate]; done)
  focus (simp [pubCall]; done)
  first | (with_reducible refine aops_run (by simp [List.replicate_succ]; first | exact rfl | exact ⟨rfl, rfl⟩) ?_) | (with_reducible refine adraw_go (by simp [List.replicate_succ]; first | exact rfl | exact ⟨rfl, rfl, rfl⟩) ?_)
  repeat (first
   | (with_reducible first | refine AW.seq ?_ | refine AW.block ?_ | refine aThen_n ?_ | refine aBlk_n ?_ | refine AW.ret ?_ | refine aThen_r ?_ | refine aBlk_r ?_ | refine aops_done ?_ | refine AW.skip ?_ | refine AW.exit ?_ | refine aThen_e ?_ | refine aBlk_hit ?_ | refine AW.label ?_ | refine AW.scope ?_ | refine aNg_n ?_ | refine aNg_r ?_ | refine aNg_e ?_)
   | ((with_reducible refine AW.region ?_); with_reducible refine aops_run (by simp [List.replicate_succ]; first | exact rfl | exact ⟨rfl, rfl⟩) ?_)
   | ((with_reducible refine AW.draw mixedP ?_ ?_); (focus first | exact .inl rfl | exact .inr (by decide)); with_reducible refine adraw_go (by simp [List.replicate_succ]; first | exact rfl | exact ⟨rfl, rfl, rfl⟩) ?_)
   | (with_reducible refine adraw_done (by kernel_rfl) ?_)
   | ((with_reducible refine aBlk_miss ?_ ?_); focus decide)
   | ((with_reducible refine cond_t ?_ ?_); focus (simp [ev]; done))
   | ((with_reducible refine cond_f ?_ ?_); focus (simp [ev]; done)))
  (with_reducible first | refine aops_c (h1) Try.func30 (by kernel_rfl) (by kernel_rfl) ?_ ?_ ?_ | refine adraw_c (h1) Try.func30 (by kernel_rfl) (by kernel_rfl) ?_ ?_ ?_)
  focus (simp [gate]; done)
  focus (simp [pubCall]; done)
  first | (with_reducible refine aops_run (by simp [List.replicate_succ]; first | exact rfl | exact ⟨rfl, rfl⟩) ?_) | (with_reducible refine adraw_go (by simp [List.replicate_succ]; first | exact rfl | exact ⟨rfl, rfl, rfl⟩) ?_)
  repeat (first
   | (with_reducible first | refine AW.seq ?_ | refine AW.block ?_ | refine aThen_n ?_ | refine aBlk_n ?_ | refine AW.ret ?_ | refine aThen_r ?_ | refine aBlk_r ?_ | refine aops_done ?_ | refine AW.skip ?_ | refine AW.exit ?_ | refine aThen_e ?_ | refine aBlk_hit ?_ | refine AW.label ?_ | refine AW.scope ?_ | refine aNg_n ?_ | refine aNg_r ?_ | refine aNg_e ?_)
   | ((with_reducible refine AW.region ?_); with_reducible refine aops_run (by simp [List.replicate_succ]; first | exact rfl | exact ⟨rfl, rfl⟩) ?_)
   | ((with_reducible refine AW.draw mixedP ?_ ?_); (focus first | exact .inl rfl | exact .inr (by decide)); with_reducible refine adraw_go (by simp [List.replicate_succ]; first | exact rfl | exact ⟨rfl, rfl, rfl⟩) ?_)
   | (with_reducible refine adraw_done (by kernel_rfl) ?_)
   | ((with_reducible refine aBlk_miss ?_ ?_); focus decide)
   | ((with_reducible refine cond_t ?_ ?_); focus (simp [ev]; done))
   | ((with_reducible refine cond_f ?_ ?_); focus (simp [ev]; done)))
  (with_reducible first | refine aops_c (hrs) Try.func33 (by kernel_rfl) (by kernel_rfl) ?_ ?_ ?_ | refine adraw_c (hrs) Try.func33 (by kernel_rfl) (by kernel_rfl) ?_ ?_ ?_)
  focus (simp [gate, foundS, stretchV, Stretch.row, hst, Stretch.zero]; done)
  focus (simp [pubCall, foundS, stretchV, Stretch.row, hst, Stretch.zero]; done)
  first | (with_reducible refine aops_run (by simp [List.replicate_succ, foundS, stretchV, Stretch.row, hst, Stretch.zero]; first | exact rfl | exact ⟨rfl, rfl⟩) ?_) | (with_reducible refine adraw_go (by simp [List.replicate_succ, foundS, stretchV, Stretch.row, hst, Stretch.zero]; first | exact rfl | exact ⟨rfl, rfl, rfl⟩) ?_)
  repeat (first
   | (with_reducible first | refine AW.seq ?_ | refine AW.block ?_ | refine aThen_n ?_ | refine aBlk_n ?_ | refine AW.ret ?_ | refine aThen_r ?_ | refine aBlk_r ?_ | refine aops_done ?_ | refine AW.skip ?_ | refine AW.exit ?_ | refine aThen_e ?_ | refine aBlk_hit ?_ | refine AW.label ?_ | refine AW.scope ?_ | refine aNg_n ?_ | refine aNg_r ?_ | refine aNg_e ?_)
   | ((with_reducible refine AW.region ?_); with_reducible refine aops_run (by simp [List.replicate_succ]; first | exact rfl | exact ⟨rfl, rfl⟩) ?_)
   | ((with_reducible refine AW.draw mixedP ?_ ?_); (focus first | exact .inl rfl | exact .inr (by decide)); with_reducible refine adraw_go (by simp [List.replicate_succ]; first | exact rfl | exact ⟨rfl, rfl, rfl⟩) ?_)
   | (with_reducible refine adraw_done (by kernel_rfl) ?_)
   | ((with_reducible refine aBlk_miss ?_ ?_); focus decide)
   | ((with_reducible refine cond_t ?_ ?_); focus (simp [ev]; done))
   | ((with_reducible refine cond_f ?_ ?_); focus (simp [ev]; done)))
  simp [aRet, ares, aresL, ares1, V.pub, V.pubs, ldV, Try.results6]
theorem lcovers_g (f : Font) (name : ByteArray) (n p : Int) (hf : f.Fit) (hS : smallB f n p = true) (s : Stretch) (hst : f.stretch name = some s) (hg0 : n ≤ foundH f name n p) : AC Try.prog 6 [.agg f.vs, .c (.str name), .agg [.c (.int .i64 n), .c (.int .i64 p)]] (.c (.bool true)) := by
  have hsm := small_a f n p hf
  rw [hS] at hsm
  obtain ⟨hw, hv, hp1, hp2, hn, hc⟩ := small_true hS
  obtain ⟨f1, f2, f3, f4⟩ := find_height hc name n
  have h1 := vFind_a vasm_a f name n p hf
  have hrs := rstretch_a f name hf.sl
  obtain ⟨q, hq⟩ : ∃ q, findR f name n p = q := ⟨_, rfl⟩
  obtain ⟨hh, hhh⟩ : ∃ x, foundH f name n p = x := ⟨_, rfl⟩
  rw [hq] at h1 f1 f2
  rw [hhh] at f2 f3 f4
  obtain ⟨⟨bk, bn, bs, bw, bh, bd, bx, by_, kids, bo, src⟩, e⟩ := q
  simp only [boxEV, errV, boxV, Box.row, List.map_cons, List.map_nil] at h1 f1 f2
  subst f1
  have hwr : IntKind.i64.wrap (bh + bd) = hh := by rw [f2]; exact wrap_i64 (by omega) (by omega)
  have hge : n ≤ hh := by rw [← hhh]; exact hg0
  refine AC.intro Try.func6 rfl ?_
  simp only [Try.ntmps6, List.map_cons, List.map_nil, List.length_cons, List.length_nil, Nat.reduceAdd, Nat.reduceSub, List.replicate_succ, List.replicate_zero, List.cons_append, List.nil_append]
  repeat (first
   | (with_reducible first | refine AW.seq ?_ | refine AW.block ?_ | refine aThen_n ?_ | refine aBlk_n ?_ | refine AW.ret ?_ | refine aThen_r ?_ | refine aBlk_r ?_ | refine aops_done ?_ | refine AW.skip ?_ | refine AW.exit ?_ | refine aThen_e ?_ | refine aBlk_hit ?_ | refine AW.label ?_ | refine AW.scope ?_ | refine aNg_n ?_ | refine aNg_r ?_ | refine aNg_e ?_)
   | ((with_reducible refine AW.region ?_); with_reducible refine aops_run (by simp [List.replicate_succ]; first | exact rfl | exact ⟨rfl, rfl⟩) ?_)
   | ((with_reducible refine AW.draw mixedP ?_ ?_); (focus first | exact .inl rfl | exact .inr (by decide)); with_reducible refine adraw_go (by simp [List.replicate_succ]; first | exact rfl | exact ⟨rfl, rfl, rfl⟩) ?_)
   | (with_reducible refine adraw_done (by kernel_rfl) ?_)
   | ((with_reducible refine aBlk_miss ?_ ?_); focus decide)
   | ((with_reducible refine cond_t ?_ ?_); focus (simp [ev]; done))
   | ((with_reducible refine cond_f ?_ ?_); focus (simp [ev]; done)))
  (with_reducible first | refine aops_c (awake_a) Try.func21 (by kernel_rfl) (by kernel_rfl) ?_ ?_ ?_ | refine adraw_c (awake_a) Try.func21 (by kernel_rfl) (by kernel_rfl) ?_ ?_ ?_)
  focus (simp [gate]; done)
  focus (simp [pubCall]; done)
  first | (with_reducible refine aops_run (by simp [List.replicate_succ]; first | exact rfl | exact ⟨rfl, rfl⟩) ?_) | (with_reducible refine adraw_go (by simp [List.replicate_succ]; first | exact rfl | exact ⟨rfl, rfl, rfl⟩) ?_)
  repeat (first
   | (with_reducible first | refine AW.seq ?_ | refine AW.block ?_ | refine aThen_n ?_ | refine aBlk_n ?_ | refine AW.ret ?_ | refine aThen_r ?_ | refine aBlk_r ?_ | refine aops_done ?_ | refine AW.skip ?_ | refine AW.exit ?_ | refine aThen_e ?_ | refine aBlk_hit ?_ | refine AW.label ?_ | refine AW.scope ?_ | refine aNg_n ?_ | refine aNg_r ?_ | refine aNg_e ?_)
   | ((with_reducible refine AW.region ?_); with_reducible refine aops_run (by simp [List.replicate_succ]; first | exact rfl | exact ⟨rfl, rfl⟩) ?_)
   | ((with_reducible refine AW.draw mixedP ?_ ?_); (focus first | exact .inl rfl | exact .inr (by decide)); with_reducible refine adraw_go (by simp [List.replicate_succ]; first | exact rfl | exact ⟨rfl, rfl, rfl⟩) ?_)
   | (with_reducible refine adraw_done (by kernel_rfl) ?_)
   | ((with_reducible refine aBlk_miss ?_ ?_); focus decide)
   | ((with_reducible refine cond_t ?_ ?_); focus (simp [ev]; done))
   | ((with_reducible refine cond_f ?_ ?_); focus (simp [ev]; done)))
  (with_reducible first | refine aops_c (hsm) Try.func32 (by kernel_rfl) (by kernel_rfl) ?_ ?_ ?_ | refine adraw_c (hsm) Try.func32 (by kernel_rfl) (by kernel_rfl) ?_ ?_ ?_)
  focus (simp [gate]; done)
  focus (simp [pubCall]; done)
  first | (with_reducible refine aops_run (by simp [List.replicate_succ]; first | exact rfl | exact ⟨rfl, rfl⟩) ?_) | (with_reducible refine adraw_go (by simp [List.replicate_succ]; first | exact rfl | exact ⟨rfl, rfl, rfl⟩) ?_)
  repeat (first
   | (with_reducible first | refine AW.seq ?_ | refine AW.block ?_ | refine aThen_n ?_ | refine aBlk_n ?_ | refine AW.ret ?_ | refine aThen_r ?_ | refine aBlk_r ?_ | refine aops_done ?_ | refine AW.skip ?_ | refine AW.exit ?_ | refine aThen_e ?_ | refine aBlk_hit ?_ | refine AW.label ?_ | refine AW.scope ?_ | refine aNg_n ?_ | refine aNg_r ?_ | refine aNg_e ?_)
   | ((with_reducible refine AW.region ?_); with_reducible refine aops_run (by simp [List.replicate_succ]; first | exact rfl | exact ⟨rfl, rfl⟩) ?_)
   | ((with_reducible refine AW.draw mixedP ?_ ?_); (focus first | exact .inl rfl | exact .inr (by decide)); with_reducible refine adraw_go (by simp [List.replicate_succ]; first | exact rfl | exact ⟨rfl, rfl, rfl⟩) ?_)
   | (with_reducible refine adraw_done (by kernel_rfl) ?_)
   | ((with_reducible refine aBlk_miss ?_ ?_); focus decide)
   | ((with_reducible refine cond_t ?_ ?_); focus (simp [ev]; done))
   | ((with_reducible refine cond_f ?_ ?_); focus (simp [ev]; done)))
  (with_reducible first | refine aops_c (h1) Try.func30 (by kernel_rfl) (by kernel_rfl) ?_ ?_ ?_ | refine adraw_c (h1) Try.func30 (by kernel_rfl) (by kernel_rfl) ?_ ?_ ?_)
  focus (simp [gate]; done)
  focus (simp [pubCall]; done)
  first | (with_reducible refine aops_run (by simp [List.replicate_succ]; first | exact rfl | exact ⟨rfl, rfl⟩) ?_) | (with_reducible refine adraw_go (by simp [List.replicate_succ]; first | exact rfl | exact ⟨rfl, rfl, rfl⟩) ?_)
  repeat (first
   | (with_reducible first | refine AW.seq ?_ | refine AW.block ?_ | refine aThen_n ?_ | refine aBlk_n ?_ | refine AW.ret ?_ | refine aThen_r ?_ | refine aBlk_r ?_ | refine aops_done ?_ | refine AW.skip ?_ | refine AW.exit ?_ | refine aThen_e ?_ | refine aBlk_hit ?_ | refine AW.label ?_ | refine AW.scope ?_ | refine aNg_n ?_ | refine aNg_r ?_ | refine aNg_e ?_)
   | ((with_reducible refine AW.region ?_); with_reducible refine aops_run (by simp [List.replicate_succ]; first | exact rfl | exact ⟨rfl, rfl⟩) ?_)
   | ((with_reducible refine AW.draw mixedP ?_ ?_); (focus first | exact .inl rfl | exact .inr (by decide)); with_reducible refine adraw_go (by simp [List.replicate_succ]; first | exact rfl | exact ⟨rfl, rfl, rfl⟩) ?_)
   | (with_reducible refine adraw_done (by kernel_rfl) ?_)
   | ((with_reducible refine aBlk_miss ?_ ?_); focus decide)
   | ((with_reducible refine cond_t ?_ ?_); focus (simp [ev]; done))
   | ((with_reducible refine cond_f ?_ ?_); focus (simp [ev]; done)))
  (with_reducible first | refine aops_c (hrs) Try.func33 (by kernel_rfl) (by kernel_rfl) ?_ ?_ ?_ | refine adraw_c (hrs) Try.func33 (by kernel_rfl) (by kernel_rfl) ?_ ?_ ?_)
  focus (simp [gate, foundS, stretchV, Stretch.row, hst]; done)
  focus (simp [pubCall, foundS, stretchV, Stretch.row, hst]; done)
  first | (with_reducible refine aops_run (by simp [List.replicate_succ, foundS, stretchV, Stretch.row, hst]; first | exact rfl | exact ⟨rfl, rfl⟩) ?_) | (with_reducible refine adraw_go (by simp [List.replicate_succ, foundS, stretchV, Stretch.row, hst]; first | exact rfl | exact ⟨rfl, rfl, rfl⟩) ?_)
  repeat (first
   | (with_reducible first | refine AW.seq ?_ | refine AW.block ?_ | refine aThen_n ?_ | refine aBlk_n ?_ | refine AW.ret ?_ | refine aThen_r ?_ | refine aBlk_r ?_ | refine aops_done ?_ | refine AW.skip ?_ | refine AW.exit ?_ | refine aThen_e ?_ | refine aBlk_hit ?_ | refine AW.label ?_ | refine AW.scope ?_ | refine aNg_n ?_ | refine aNg_r ?_ | refine aNg_e ?_)
   | ((with_reducible refine AW.region ?_); with_reducible refine aops_run (by simp [List.replicate_succ, hwr, hge]; first | exact rfl | exact ⟨rfl, rfl⟩) ?_)
   | ((with_reducible refine AW.draw mixedP ?_ ?_); (focus first | exact .inl rfl | exact .inr (by decide)); with_reducible refine adraw_go (by simp [List.replicate_succ, hwr, hge]; first | exact rfl | exact ⟨rfl, rfl, rfl⟩) ?_)
   | (with_reducible refine adraw_done (by kernel_rfl) ?_)
   | ((with_reducible refine aBlk_miss ?_ ?_); focus decide)
   | ((with_reducible refine cond_t ?_ ?_); focus (simp [ev, hwr, hge]; done))
   | ((with_reducible refine cond_f ?_ ?_); focus (simp [ev, hwr, hge]; done)))
  simp [aRet, ares, aresL, ares1, V.pub, V.pubs, ldV, Try.results6]
set_option maxHeartbeats 1600000 in
theorem lcovers_l (f : Font) (name : ByteArray) (n p : Int) (hf : f.Fit) (hS : smallB f n p = true) (s : Stretch) (hst : f.stretch name = some s) (hlt0 : foundH f name n p < n) (hp : s.parts = []) : AC Try.prog 6 [.agg f.vs, .c (.str name), .agg [.c (.int .i64 n), .c (.int .i64 p)]] (.c (.bool true)) := by
  have hsm := small_a f n p hf
  rw [hS] at hsm
  obtain ⟨hw, hv, hp1, hp2, hn, hc⟩ := small_true hS
  obtain ⟨f1, f2, f3, f4⟩ := find_height hc name n
  have h1 := vFind_a vasm_a f name n p hf
  have hrs := rstretch_a f name hf.sl
  obtain ⟨q, hq⟩ : ∃ q, findR f name n p = q := ⟨_, rfl⟩
  obtain ⟨hh, hhh⟩ : ∃ x, foundH f name n p = x := ⟨_, rfl⟩
  rw [hq] at h1 f1 f2
  rw [hhh] at f2 f3 f4
  obtain ⟨⟨bk, bn, bs, bw, bh, bd, bx, by_, kids, bo, src⟩, e⟩ := q
  simp only [boxEV, errV, boxV, Box.row, List.map_cons, List.map_nil] at h1 f1 f2
  subst f1
  have hwr : IntKind.i64.wrap (bh + bd) = hh := by rw [f2]; exact wrap_i64 (by omega) (by omega)
  obtain ⟨k1, k2⟩ := covers hv (p := p) (need := n) hst hlt0
  have hge : ¬ n ≤ hh := by rw [← hhh]; omega
  obtain ⟨g1, g2, _⟩ := good_of hv (stretchO_mem hst).1
  have hlc := vHeight_n (c := ⟨⟨#[]⟩, 1000⟩) hf hc (no_asm hst hp (by omega))
  refine AC.intro Try.func6 rfl ?_
  simp only [Try.ntmps6, List.map_cons, List.map_nil, List.length_cons, List.length_nil, Nat.reduceAdd, Nat.reduceSub, List.replicate_succ, List.replicate_zero, List.cons_append, List.nil_append]
  repeat (first
   | (with_reducible first | refine AW.seq ?_ | refine AW.block ?_ | refine aThen_n ?_ | refine aBlk_n ?_ | refine AW.ret ?_ | refine aThen_r ?_ | refine aBlk_r ?_ | refine aops_done ?_ | refine AW.skip ?_ | refine AW.exit ?_ | refine aThen_e ?_ | refine aBlk_hit ?_ | refine AW.label ?_ | refine AW.scope ?_ | refine aNg_n ?_ | refine aNg_r ?_ | refine aNg_e ?_)
   | ((with_reducible refine AW.region ?_); with_reducible refine aops_run (by simp [List.replicate_succ]; first | exact rfl | exact ⟨rfl, rfl⟩) ?_)
   | ((with_reducible refine AW.draw mixedP ?_ ?_); (focus first | exact .inl rfl | exact .inr (by decide)); with_reducible refine adraw_go (by simp [List.replicate_succ]; first | exact rfl | exact ⟨rfl, rfl, rfl⟩) ?_)
   | (with_reducible refine adraw_done (by kernel_rfl) ?_)
   | ((with_reducible refine aBlk_miss ?_ ?_); focus decide)
   | ((with_reducible refine cond_t ?_ ?_); focus (simp [ev]; done))
   | ((with_reducible refine cond_f ?_ ?_); focus (simp [ev]; done)))
  (with_reducible first | refine aops_c (awake_a) Try.func21 (by kernel_rfl) (by kernel_rfl) ?_ ?_ ?_ | refine adraw_c (awake_a) Try.func21 (by kernel_rfl) (by kernel_rfl) ?_ ?_ ?_)
  focus (simp [gate]; done)
  focus (simp [pubCall]; done)
  first | (with_reducible refine aops_run (by simp [List.replicate_succ]; first | exact rfl | exact ⟨rfl, rfl⟩) ?_) | (with_reducible refine adraw_go (by simp [List.replicate_succ]; first | exact rfl | exact ⟨rfl, rfl, rfl⟩) ?_)
  repeat (first
   | (with_reducible first | refine AW.seq ?_ | refine AW.block ?_ | refine aThen_n ?_ | refine aBlk_n ?_ | refine AW.ret ?_ | refine aThen_r ?_ | refine aBlk_r ?_ | refine aops_done ?_ | refine AW.skip ?_ | refine AW.exit ?_ | refine aThen_e ?_ | refine aBlk_hit ?_ | refine AW.label ?_ | refine AW.scope ?_ | refine aNg_n ?_ | refine aNg_r ?_ | refine aNg_e ?_)
   | ((with_reducible refine AW.region ?_); with_reducible refine aops_run (by simp [List.replicate_succ]; first | exact rfl | exact ⟨rfl, rfl⟩) ?_)
   | ((with_reducible refine AW.draw mixedP ?_ ?_); (focus first | exact .inl rfl | exact .inr (by decide)); with_reducible refine adraw_go (by simp [List.replicate_succ]; first | exact rfl | exact ⟨rfl, rfl, rfl⟩) ?_)
   | (with_reducible refine adraw_done (by kernel_rfl) ?_)
   | ((with_reducible refine aBlk_miss ?_ ?_); focus decide)
   | ((with_reducible refine cond_t ?_ ?_); focus (simp [ev]; done))
   | ((with_reducible refine cond_f ?_ ?_); focus (simp [ev]; done)))
  (with_reducible first | refine aops_c (hsm) Try.func32 (by kernel_rfl) (by kernel_rfl) ?_ ?_ ?_ | refine adraw_c (hsm) Try.func32 (by kernel_rfl) (by kernel_rfl) ?_ ?_ ?_)
  focus (simp [gate]; done)
  focus (simp [pubCall]; done)
  first | (with_reducible refine aops_run (by simp [List.replicate_succ]; first | exact rfl | exact ⟨rfl, rfl⟩) ?_) | (with_reducible refine adraw_go (by simp [List.replicate_succ]; first | exact rfl | exact ⟨rfl, rfl, rfl⟩) ?_)
  repeat (first
   | (with_reducible first | refine AW.seq ?_ | refine AW.block ?_ | refine aThen_n ?_ | refine aBlk_n ?_ | refine AW.ret ?_ | refine aThen_r ?_ | refine aBlk_r ?_ | refine aops_done ?_ | refine AW.skip ?_ | refine AW.exit ?_ | refine aThen_e ?_ | refine aBlk_hit ?_ | refine AW.label ?_ | refine AW.scope ?_ | refine aNg_n ?_ | refine aNg_r ?_ | refine aNg_e ?_)
   | ((with_reducible refine AW.region ?_); with_reducible refine aops_run (by simp [List.replicate_succ]; first | exact rfl | exact ⟨rfl, rfl⟩) ?_)
   | ((with_reducible refine AW.draw mixedP ?_ ?_); (focus first | exact .inl rfl | exact .inr (by decide)); with_reducible refine adraw_go (by simp [List.replicate_succ]; first | exact rfl | exact ⟨rfl, rfl, rfl⟩) ?_)
   | (with_reducible refine adraw_done (by kernel_rfl) ?_)
   | ((with_reducible refine aBlk_miss ?_ ?_); focus decide)
   | ((with_reducible refine cond_t ?_ ?_); focus (simp [ev]; done))
   | ((with_reducible refine cond_f ?_ ?_); focus (simp [ev]; done)))
  (with_reducible first | refine aops_c (h1) Try.func30 (by kernel_rfl) (by kernel_rfl) ?_ ?_ ?_ | refine adraw_c (h1) Try.func30 (by kernel_rfl) (by kernel_rfl) ?_ ?_ ?_)
  focus (simp [gate]; done)
  focus (simp [pubCall]; done)
  first | (with_reducible refine aops_run (by simp [List.replicate_succ]; first | exact rfl | exact ⟨rfl, rfl⟩) ?_) | (with_reducible refine adraw_go (by simp [List.replicate_succ]; first | exact rfl | exact ⟨rfl, rfl, rfl⟩) ?_)
  repeat (first
   | (with_reducible first | refine AW.seq ?_ | refine AW.block ?_ | refine aThen_n ?_ | refine aBlk_n ?_ | refine AW.ret ?_ | refine aThen_r ?_ | refine aBlk_r ?_ | refine aops_done ?_ | refine AW.skip ?_ | refine AW.exit ?_ | refine aThen_e ?_ | refine aBlk_hit ?_ | refine AW.label ?_ | refine AW.scope ?_ | refine aNg_n ?_ | refine aNg_r ?_ | refine aNg_e ?_)
   | ((with_reducible refine AW.region ?_); with_reducible refine aops_run (by simp [List.replicate_succ]; first | exact rfl | exact ⟨rfl, rfl⟩) ?_)
   | ((with_reducible refine AW.draw mixedP ?_ ?_); (focus first | exact .inl rfl | exact .inr (by decide)); with_reducible refine adraw_go (by simp [List.replicate_succ]; first | exact rfl | exact ⟨rfl, rfl, rfl⟩) ?_)
   | (with_reducible refine adraw_done (by kernel_rfl) ?_)
   | ((with_reducible refine aBlk_miss ?_ ?_); focus decide)
   | ((with_reducible refine cond_t ?_ ?_); focus (simp [ev]; done))
   | ((with_reducible refine cond_f ?_ ?_); focus (simp [ev]; done)))
  (with_reducible first | refine aops_c (hrs) Try.func33 (by kernel_rfl) (by kernel_rfl) ?_ ?_ ?_ | refine adraw_c (hrs) Try.func33 (by kernel_rfl) (by kernel_rfl) ?_ ?_ ?_)
  focus (simp [gate, foundS, stretchV, Stretch.row, hst]; done)
  focus (simp [pubCall, foundS, stretchV, Stretch.row, hst]; done)
  first | (with_reducible refine aops_run (by simp [List.replicate_succ, foundS, stretchV, Stretch.row, hst]; first | exact rfl | exact ⟨rfl, rfl⟩) ?_) | (with_reducible refine adraw_go (by simp [List.replicate_succ, foundS, stretchV, Stretch.row, hst]; first | exact rfl | exact ⟨rfl, rfl, rfl⟩) ?_)
  repeat (first
   | (with_reducible first | refine AW.seq ?_ | refine AW.block ?_ | refine aThen_n ?_ | refine aBlk_n ?_ | refine AW.ret ?_ | refine aThen_r ?_ | refine aBlk_r ?_ | refine aops_done ?_ | refine AW.skip ?_ | refine AW.exit ?_ | refine aThen_e ?_ | refine aBlk_hit ?_ | refine AW.label ?_ | refine AW.scope ?_ | refine aNg_n ?_ | refine aNg_r ?_ | refine aNg_e ?_)
   | ((with_reducible refine AW.region ?_); with_reducible refine aops_run (by simp [List.replicate_succ, hwr, hge]; first | exact rfl | exact ⟨rfl, rfl⟩) ?_)
   | ((with_reducible refine AW.draw mixedP ?_ ?_); (focus first | exact .inl rfl | exact .inr (by decide)); with_reducible refine adraw_go (by simp [List.replicate_succ, hwr, hge]; first | exact rfl | exact ⟨rfl, rfl, rfl⟩) ?_)
   | (with_reducible refine adraw_done (by kernel_rfl) ?_)
   | ((with_reducible refine aBlk_miss ?_ ?_); focus decide)
   | ((with_reducible refine cond_t ?_ ?_); focus (simp [ev, hwr, hge]; done))
   | ((with_reducible refine cond_f ?_ ?_); focus (simp [ev, hwr, hge]; done)))
  refine AW.loopH (ι := { k : Nat // k ≤ s.sizes.length }) (fun k => [(11, .c (.int .i64 (k.1 : Int)))]) (fun _ => [.box 27 f.vs false, .box 28 [.c (.int .i64 n), .c (.int .i64 p)] false, .box 45 [.c (.int .i64 bk), .c (.str bn), .c (.int .i64 bs), .c (.int .i64 bw), .c (.int .i64 bh), .c (.int .i64 bd), .c (.int .i64 bx), .c (.int .i64 by_), .c (.sl (Box.rows kids)), .c (.int .i64 bo), .c (intsC src)] false, .box 59 [.c (.str s.name), .c (sizesC s.sizes), .c (partsC s.parts), .c (.int .i64 s.overlap)] false]) (fun k => s.sizes.length - k.1) ⟨0, by omega⟩ _ (by simp only [wr, wrOps, List.cons_append, List.nil_append, List.append_nil, List.append_assoc]; exact rfl) _ (by simp only [havoc, List.foldl_cons, List.foldl_nil, List.set_cons_zero, List.set_cons_succ]; exact rfl) ?_ ?_
  all_goals simp only [puts, List.foldl_cons, List.foldl_nil, List.set_cons_zero, List.set_cons_succ]
  · refine Le.weak (by simp [subT])
  · rintro ⟨k, hk⟩
    by_cases hlt : k < s.sizes.length
    · obtain ⟨z, hz⟩ : ∃ z, s.sizes[k] = z := ⟨_, rfl⟩
      have hzm : z ∈ s.sizes := hz ▸ List.getElem_mem hlt
      have hzh := vHeight_t (c := ⟨z, 0⟩) hf hc (is_size hst hzm)
      have hzl := k1 z hzm
      have hzn : ¬ n ≤ sizeH f z p := by omega
      simp only [heightI, if_true] at hzh
      have hw1 : IntKind.i64.wrap ((k : Int) + 1) = ((k + 1 : Nat) : Int) := by rw [wrap_i64 (by omega) (by omega)]; simp
      repeat (first
       | (with_reducible first | refine AW.seq ?_ | refine AW.block ?_ | refine aThen_n ?_ | refine aBlk_n ?_ | refine AW.ret ?_ | refine aThen_r ?_ | refine aBlk_r ?_ | refine aops_done ?_ | refine AW.skip ?_ | refine AW.exit ?_ | refine aThen_e ?_ | refine aBlk_hit ?_ | refine AW.label ?_ | refine AW.scope ?_ | refine aNg_n ?_ | refine aNg_r ?_ | refine aNg_e ?_)
       | ((with_reducible refine AW.region ?_); with_reducible refine aops_run (by simp [List.replicate_succ, hlt, hz, sizesC]; first | exact rfl | exact ⟨rfl, rfl⟩) ?_)
       | ((with_reducible refine AW.draw mixedP ?_ ?_); (focus first | exact .inl rfl | exact .inr (by decide)); with_reducible refine adraw_go (by simp [List.replicate_succ, hlt, hz, sizesC]; first | exact rfl | exact ⟨rfl, rfl, rfl⟩) ?_)
       | (with_reducible refine adraw_done (by kernel_rfl) ?_)
       | ((with_reducible refine aBlk_miss ?_ ?_); focus decide)
       | ((with_reducible refine cond_t ?_ ?_); focus (simp [ev, hlt, hz, sizesC]; done))
       | ((with_reducible refine cond_f ?_ ?_); focus (simp [ev, hlt, hz, sizesC]; done)))
      (with_reducible first | refine aops_c (hzh) Try.func27 (by kernel_rfl) (by kernel_rfl) ?_ ?_ ?_ | refine adraw_c (hzh) Try.func27 (by kernel_rfl) (by kernel_rfl) ?_ ?_ ?_)
      focus (simp [gate]; done)
      focus (simp [pubCall]; done)
      first | (with_reducible refine aops_run (by simp [List.replicate_succ]; first | exact rfl | exact ⟨rfl, rfl⟩) ?_) | (with_reducible refine adraw_go (by simp [List.replicate_succ]; first | exact rfl | exact ⟨rfl, rfl, rfl⟩) ?_)
      repeat (first
       | (with_reducible first | refine AW.seq ?_ | refine AW.block ?_ | refine aThen_n ?_ | refine aBlk_n ?_ | refine AW.ret ?_ | refine aThen_r ?_ | refine aBlk_r ?_ | refine aops_done ?_ | refine AW.skip ?_ | refine AW.exit ?_ | refine aThen_e ?_ | refine aBlk_hit ?_ | refine AW.label ?_ | refine AW.scope ?_ | refine aNg_n ?_ | refine aNg_r ?_ | refine aNg_e ?_)
       | ((with_reducible refine AW.region ?_); with_reducible refine aops_run (by simp [List.replicate_succ, hzn, hw1]; first | exact rfl | exact ⟨rfl, rfl⟩) ?_)
       | ((with_reducible refine AW.draw mixedP ?_ ?_); (focus first | exact .inl rfl | exact .inr (by decide)); with_reducible refine adraw_go (by simp [List.replicate_succ, hzn, hw1]; first | exact rfl | exact ⟨rfl, rfl, rfl⟩) ?_)
       | (with_reducible refine adraw_done (by kernel_rfl) ?_)
       | ((with_reducible refine aBlk_miss ?_ ?_); focus decide)
       | ((with_reducible refine cond_t ?_ ?_); focus (simp [ev, hzn, hw1]; done))
       | ((with_reducible refine cond_f ?_ ?_); focus (simp [ev, hzn, hw1]; done)))
      refine ⟨⟨k + 1, hlt⟩, by simp only; omega, ?_⟩
      refine Le.weak (by simp [subT, sizesC])
    · repeat (first
       | (with_reducible first | refine AW.seq ?_ | refine AW.block ?_ | refine aThen_n ?_ | refine aBlk_n ?_ | refine AW.ret ?_ | refine aThen_r ?_ | refine aBlk_r ?_ | refine aops_done ?_ | refine AW.skip ?_ | refine AW.exit ?_ | refine aThen_e ?_ | refine aBlk_hit ?_ | refine AW.label ?_ | refine AW.scope ?_ | refine aNg_n ?_ | refine aNg_r ?_ | refine aNg_e ?_)
       | ((with_reducible refine AW.region ?_); with_reducible refine aops_run (by simp [List.replicate_succ, hlt, sizesC]; first | exact rfl | exact ⟨rfl, rfl⟩) ?_)
       | ((with_reducible refine AW.draw mixedP ?_ ?_); (focus first | exact .inl rfl | exact .inr (by decide)); with_reducible refine adraw_go (by simp [List.replicate_succ, hlt, sizesC]; first | exact rfl | exact ⟨rfl, rfl, rfl⟩) ?_)
       | (with_reducible refine adraw_done (by kernel_rfl) ?_)
       | ((with_reducible refine aBlk_miss ?_ ?_); focus decide)
       | ((with_reducible refine cond_t ?_ ?_); focus (simp [ev, hlt, sizesC]; done))
       | ((with_reducible refine cond_f ?_ ?_); focus (simp [ev, hlt, sizesC]; done)))
      (with_reducible first | refine aops_c (hlc) Try.func27 (by kernel_rfl) (by kernel_rfl) ?_ ?_ ?_ | refine adraw_c (hlc) Try.func27 (by kernel_rfl) (by kernel_rfl) ?_ ?_ ?_)
      focus (simp [gate]; done)
      focus (simp [pubCall]; done)
      first | (with_reducible refine aops_run (by simp [List.replicate_succ]; first | exact rfl | exact ⟨rfl, rfl⟩) ?_) | (with_reducible refine adraw_go (by simp [List.replicate_succ]; first | exact rfl | exact ⟨rfl, rfl, rfl⟩) ?_)
      repeat (first
       | (with_reducible first | refine AW.seq ?_ | refine AW.block ?_ | refine aThen_n ?_ | refine aBlk_n ?_ | refine AW.ret ?_ | refine aThen_r ?_ | refine aBlk_r ?_ | refine aops_done ?_ | refine AW.skip ?_ | refine AW.exit ?_ | refine aThen_e ?_ | refine aBlk_hit ?_ | refine AW.label ?_ | refine AW.scope ?_ | refine aNg_n ?_ | refine aNg_r ?_ | refine aNg_e ?_)
       | ((with_reducible refine AW.region ?_); with_reducible refine aops_run (by simp [List.replicate_succ, hp, partsC]; first | exact rfl | exact ⟨rfl, rfl⟩) ?_)
       | ((with_reducible refine AW.draw mixedP ?_ ?_); (focus first | exact .inl rfl | exact .inr (by decide)); with_reducible refine adraw_go (by simp [List.replicate_succ, hp, partsC]; first | exact rfl | exact ⟨rfl, rfl, rfl⟩) ?_)
       | (with_reducible refine adraw_done (by kernel_rfl) ?_)
       | ((with_reducible refine aBlk_miss ?_ ?_); focus decide)
       | ((with_reducible refine cond_t ?_ ?_); focus (simp [ev, hp, partsC]; done))
       | ((with_reducible refine cond_f ?_ ?_); focus (simp [ev, hp, partsC]; done)))
      simp [aRet, ares, aresL, ares1, V.pub, V.pubs, ldV, Try.results6]
set_option maxHeartbeats 1600000 in
theorem lcovers_m (f : Font) (name : ByteArray) (n p : Int) (hf : f.Fit) (hS : smallB f n p = true) (s : Stretch) (hst : f.stretch name = some s) (hlt0 : foundH f name n p < n) (hp : ¬ s.parts = []) : AC Try.prog 6 [.agg f.vs, .c (.str name), .agg [.c (.int .i64 n), .c (.int .i64 p)]] (.c (.bool true)) := by
  have hsm := small_a f n p hf
  rw [hS] at hsm
  obtain ⟨hw, hv, hp1, hp2, hn, hc⟩ := small_true hS
  obtain ⟨f1, f2, f3, f4⟩ := find_height hc name n
  have h1 := vFind_a vasm_a f name n p hf
  have hrs := rstretch_a f name hf.sl
  obtain ⟨q, hq⟩ : ∃ q, findR f name n p = q := ⟨_, rfl⟩
  obtain ⟨hh, hhh⟩ : ∃ x, foundH f name n p = x := ⟨_, rfl⟩
  rw [hq] at h1 f1 f2
  rw [hhh] at f2 f3 f4
  obtain ⟨⟨bk, bn, bs, bw, bh, bd, bx, by_, kids, bo, src⟩, e⟩ := q
  simp only [boxEV, errV, boxV, Box.row, List.map_cons, List.map_nil] at h1 f1 f2
  subst f1
  have hwr : IntKind.i64.wrap (bh + bd) = hh := by rw [f2]; exact wrap_i64 (by omega) (by omega)
  obtain ⟨k1, k2⟩ := covers hv (p := p) (need := n) hst hlt0
  have hge : ¬ n ≤ hh := by rw [← hhh]; omega
  obtain ⟨g1, g2, _⟩ := good_of hv (stretchO_mem hst).1
  have hpl : 0 < s.parts.length := List.length_pos_iff.2 hp
  have hlc := vHeight_t (c := ⟨⟨#[]⟩, 1000⟩) hf hc (is_asm hst hp (by omega) (by omega))
  have hmn : heightI f name ⟨⟨#[]⟩, 1000⟩ p < n := by
    have := k2 hp
    simp only [heightI, hst, Option.getD_some]
    simpa using this
  generalize heightI f name ⟨⟨#[]⟩, 1000⟩ p = m at hlc hmn
  refine AC.intro Try.func6 rfl ?_
  simp only [Try.ntmps6, List.map_cons, List.map_nil, List.length_cons, List.length_nil, Nat.reduceAdd, Nat.reduceSub, List.replicate_succ, List.replicate_zero, List.cons_append, List.nil_append]
  repeat (first
   | (with_reducible first | refine AW.seq ?_ | refine AW.block ?_ | refine aThen_n ?_ | refine aBlk_n ?_ | refine AW.ret ?_ | refine aThen_r ?_ | refine aBlk_r ?_ | refine aops_done ?_ | refine AW.skip ?_ | refine AW.exit ?_ | refine aThen_e ?_ | refine aBlk_hit ?_ | refine AW.label ?_ | refine AW.scope ?_ | refine aNg_n ?_ | refine aNg_r ?_ | refine aNg_e ?_)
   | ((with_reducible refine AW.region ?_); with_reducible refine aops_run (by simp [List.replicate_succ]; first | exact rfl | exact ⟨rfl, rfl⟩) ?_)
   | ((with_reducible refine AW.draw mixedP ?_ ?_); (focus first | exact .inl rfl | exact .inr (by decide)); with_reducible refine adraw_go (by simp [List.replicate_succ]; first | exact rfl | exact ⟨rfl, rfl, rfl⟩) ?_)
   | (with_reducible refine adraw_done (by kernel_rfl) ?_)
   | ((with_reducible refine aBlk_miss ?_ ?_); focus decide)
   | ((with_reducible refine cond_t ?_ ?_); focus (simp [ev]; done))
   | ((with_reducible refine cond_f ?_ ?_); focus (simp [ev]; done)))
  (with_reducible first | refine aops_c (awake_a) Try.func21 (by kernel_rfl) (by kernel_rfl) ?_ ?_ ?_ | refine adraw_c (awake_a) Try.func21 (by kernel_rfl) (by kernel_rfl) ?_ ?_ ?_)
  focus (simp [gate]; done)
  focus (simp [pubCall]; done)
  first | (with_reducible refine aops_run (by simp [List.replicate_succ]; first | exact rfl | exact ⟨rfl, rfl⟩) ?_) | (with_reducible refine adraw_go (by simp [List.replicate_succ]; first | exact rfl | exact ⟨rfl, rfl, rfl⟩) ?_)
  repeat (first
   | (with_reducible first | refine AW.seq ?_ | refine AW.block ?_ | refine aThen_n ?_ | refine aBlk_n ?_ | refine AW.ret ?_ | refine aThen_r ?_ | refine aBlk_r ?_ | refine aops_done ?_ | refine AW.skip ?_ | refine AW.exit ?_ | refine aThen_e ?_ | refine aBlk_hit ?_ | refine AW.label ?_ | refine AW.scope ?_ | refine aNg_n ?_ | refine aNg_r ?_ | refine aNg_e ?_)
   | ((with_reducible refine AW.region ?_); with_reducible refine aops_run (by simp [List.replicate_succ]; first | exact rfl | exact ⟨rfl, rfl⟩) ?_)
   | ((with_reducible refine AW.draw mixedP ?_ ?_); (focus first | exact .inl rfl | exact .inr (by decide)); with_reducible refine adraw_go (by simp [List.replicate_succ]; first | exact rfl | exact ⟨rfl, rfl, rfl⟩) ?_)
   | (with_reducible refine adraw_done (by kernel_rfl) ?_)
   | ((with_reducible refine aBlk_miss ?_ ?_); focus decide)
   | ((with_reducible refine cond_t ?_ ?_); focus (simp [ev]; done))
   | ((with_reducible refine cond_f ?_ ?_); focus (simp [ev]; done)))
  (with_reducible first | refine aops_c (hsm) Try.func32 (by kernel_rfl) (by kernel_rfl) ?_ ?_ ?_ | refine adraw_c (hsm) Try.func32 (by kernel_rfl) (by kernel_rfl) ?_ ?_ ?_)
  focus (simp [gate]; done)
  focus (simp [pubCall]; done)
  first | (with_reducible refine aops_run (by simp [List.replicate_succ]; first | exact rfl | exact ⟨rfl, rfl⟩) ?_) | (with_reducible refine adraw_go (by simp [List.replicate_succ]; first | exact rfl | exact ⟨rfl, rfl, rfl⟩) ?_)
  repeat (first
   | (with_reducible first | refine AW.seq ?_ | refine AW.block ?_ | refine aThen_n ?_ | refine aBlk_n ?_ | refine AW.ret ?_ | refine aThen_r ?_ | refine aBlk_r ?_ | refine aops_done ?_ | refine AW.skip ?_ | refine AW.exit ?_ | refine aThen_e ?_ | refine aBlk_hit ?_ | refine AW.label ?_ | refine AW.scope ?_ | refine aNg_n ?_ | refine aNg_r ?_ | refine aNg_e ?_)
   | ((with_reducible refine AW.region ?_); with_reducible refine aops_run (by simp [List.replicate_succ]; first | exact rfl | exact ⟨rfl, rfl⟩) ?_)
   | ((with_reducible refine AW.draw mixedP ?_ ?_); (focus first | exact .inl rfl | exact .inr (by decide)); with_reducible refine adraw_go (by simp [List.replicate_succ]; first | exact rfl | exact ⟨rfl, rfl, rfl⟩) ?_)
   | (with_reducible refine adraw_done (by kernel_rfl) ?_)
   | ((with_reducible refine aBlk_miss ?_ ?_); focus decide)
   | ((with_reducible refine cond_t ?_ ?_); focus (simp [ev]; done))
   | ((with_reducible refine cond_f ?_ ?_); focus (simp [ev]; done)))
  (with_reducible first | refine aops_c (h1) Try.func30 (by kernel_rfl) (by kernel_rfl) ?_ ?_ ?_ | refine adraw_c (h1) Try.func30 (by kernel_rfl) (by kernel_rfl) ?_ ?_ ?_)
  focus (simp [gate]; done)
  focus (simp [pubCall]; done)
  first | (with_reducible refine aops_run (by simp [List.replicate_succ]; first | exact rfl | exact ⟨rfl, rfl⟩) ?_) | (with_reducible refine adraw_go (by simp [List.replicate_succ]; first | exact rfl | exact ⟨rfl, rfl, rfl⟩) ?_)
  repeat (first
   | (with_reducible first | refine AW.seq ?_ | refine AW.block ?_ | refine aThen_n ?_ | refine aBlk_n ?_ | refine AW.ret ?_ | refine aThen_r ?_ | refine aBlk_r ?_ | refine aops_done ?_ | refine AW.skip ?_ | refine AW.exit ?_ | refine aThen_e ?_ | refine aBlk_hit ?_ | refine AW.label ?_ | refine AW.scope ?_ | refine aNg_n ?_ | refine aNg_r ?_ | refine aNg_e ?_)
   | ((with_reducible refine AW.region ?_); with_reducible refine aops_run (by simp [List.replicate_succ]; first | exact rfl | exact ⟨rfl, rfl⟩) ?_)
   | ((with_reducible refine AW.draw mixedP ?_ ?_); (focus first | exact .inl rfl | exact .inr (by decide)); with_reducible refine adraw_go (by simp [List.replicate_succ]; first | exact rfl | exact ⟨rfl, rfl, rfl⟩) ?_)
   | (with_reducible refine adraw_done (by kernel_rfl) ?_)
   | ((with_reducible refine aBlk_miss ?_ ?_); focus decide)
   | ((with_reducible refine cond_t ?_ ?_); focus (simp [ev]; done))
   | ((with_reducible refine cond_f ?_ ?_); focus (simp [ev]; done)))
  (with_reducible first | refine aops_c (hrs) Try.func33 (by kernel_rfl) (by kernel_rfl) ?_ ?_ ?_ | refine adraw_c (hrs) Try.func33 (by kernel_rfl) (by kernel_rfl) ?_ ?_ ?_)
  focus (simp [gate, foundS, stretchV, Stretch.row, hst]; done)
  focus (simp [pubCall, foundS, stretchV, Stretch.row, hst]; done)
  first | (with_reducible refine aops_run (by simp [List.replicate_succ, foundS, stretchV, Stretch.row, hst]; first | exact rfl | exact ⟨rfl, rfl⟩) ?_) | (with_reducible refine adraw_go (by simp [List.replicate_succ, foundS, stretchV, Stretch.row, hst]; first | exact rfl | exact ⟨rfl, rfl, rfl⟩) ?_)
  repeat (first
   | (with_reducible first | refine AW.seq ?_ | refine AW.block ?_ | refine aThen_n ?_ | refine aBlk_n ?_ | refine AW.ret ?_ | refine aThen_r ?_ | refine aBlk_r ?_ | refine aops_done ?_ | refine AW.skip ?_ | refine AW.exit ?_ | refine aThen_e ?_ | refine aBlk_hit ?_ | refine AW.label ?_ | refine AW.scope ?_ | refine aNg_n ?_ | refine aNg_r ?_ | refine aNg_e ?_)
   | ((with_reducible refine AW.region ?_); with_reducible refine aops_run (by simp [List.replicate_succ, hwr, hge]; first | exact rfl | exact ⟨rfl, rfl⟩) ?_)
   | ((with_reducible refine AW.draw mixedP ?_ ?_); (focus first | exact .inl rfl | exact .inr (by decide)); with_reducible refine adraw_go (by simp [List.replicate_succ, hwr, hge]; first | exact rfl | exact ⟨rfl, rfl, rfl⟩) ?_)
   | (with_reducible refine adraw_done (by kernel_rfl) ?_)
   | ((with_reducible refine aBlk_miss ?_ ?_); focus decide)
   | ((with_reducible refine cond_t ?_ ?_); focus (simp [ev, hwr, hge]; done))
   | ((with_reducible refine cond_f ?_ ?_); focus (simp [ev, hwr, hge]; done)))
  refine AW.loopH (ι := { k : Nat // k ≤ s.sizes.length }) (fun k => [(11, .c (.int .i64 (k.1 : Int)))]) (fun _ => [.box 27 f.vs false, .box 28 [.c (.int .i64 n), .c (.int .i64 p)] false, .box 45 [.c (.int .i64 bk), .c (.str bn), .c (.int .i64 bs), .c (.int .i64 bw), .c (.int .i64 bh), .c (.int .i64 bd), .c (.int .i64 bx), .c (.int .i64 by_), .c (.sl (Box.rows kids)), .c (.int .i64 bo), .c (intsC src)] false, .box 59 [.c (.str s.name), .c (sizesC s.sizes), .c (partsC s.parts), .c (.int .i64 s.overlap)] false]) (fun k => s.sizes.length - k.1) ⟨0, by omega⟩ _ (by simp only [wr, wrOps, List.cons_append, List.nil_append, List.append_nil, List.append_assoc]; exact rfl) _ (by simp only [havoc, List.foldl_cons, List.foldl_nil, List.set_cons_zero, List.set_cons_succ]; exact rfl) ?_ ?_
  all_goals simp only [puts, List.foldl_cons, List.foldl_nil, List.set_cons_zero, List.set_cons_succ]
  · refine Le.weak (by simp [subT])
  · rintro ⟨k, hk⟩
    by_cases hlt : k < s.sizes.length
    · obtain ⟨z, hz⟩ : ∃ z, s.sizes[k] = z := ⟨_, rfl⟩
      have hzm : z ∈ s.sizes := hz ▸ List.getElem_mem hlt
      have hzh := vHeight_t (c := ⟨z, 0⟩) hf hc (is_size hst hzm)
      have hzl := k1 z hzm
      have hzn : ¬ n ≤ sizeH f z p := by omega
      simp only [heightI, if_true] at hzh
      have hw1 : IntKind.i64.wrap ((k : Int) + 1) = ((k + 1 : Nat) : Int) := by rw [wrap_i64 (by omega) (by omega)]; simp
      repeat (first
       | (with_reducible first | refine AW.seq ?_ | refine AW.block ?_ | refine aThen_n ?_ | refine aBlk_n ?_ | refine AW.ret ?_ | refine aThen_r ?_ | refine aBlk_r ?_ | refine aops_done ?_ | refine AW.skip ?_ | refine AW.exit ?_ | refine aThen_e ?_ | refine aBlk_hit ?_ | refine AW.label ?_ | refine AW.scope ?_ | refine aNg_n ?_ | refine aNg_r ?_ | refine aNg_e ?_)
       | ((with_reducible refine AW.region ?_); with_reducible refine aops_run (by simp [List.replicate_succ, hlt, hz, sizesC]; first | exact rfl | exact ⟨rfl, rfl⟩) ?_)
       | ((with_reducible refine AW.draw mixedP ?_ ?_); (focus first | exact .inl rfl | exact .inr (by decide)); with_reducible refine adraw_go (by simp [List.replicate_succ, hlt, hz, sizesC]; first | exact rfl | exact ⟨rfl, rfl, rfl⟩) ?_)
       | (with_reducible refine adraw_done (by kernel_rfl) ?_)
       | ((with_reducible refine aBlk_miss ?_ ?_); focus decide)
       | ((with_reducible refine cond_t ?_ ?_); focus (simp [ev, hlt, hz, sizesC]; done))
       | ((with_reducible refine cond_f ?_ ?_); focus (simp [ev, hlt, hz, sizesC]; done)))
      (with_reducible first | refine aops_c (hzh) Try.func27 (by kernel_rfl) (by kernel_rfl) ?_ ?_ ?_ | refine adraw_c (hzh) Try.func27 (by kernel_rfl) (by kernel_rfl) ?_ ?_ ?_)
      focus (simp [gate]; done)
      focus (simp [pubCall]; done)
      first | (with_reducible refine aops_run (by simp [List.replicate_succ]; first | exact rfl | exact ⟨rfl, rfl⟩) ?_) | (with_reducible refine adraw_go (by simp [List.replicate_succ]; first | exact rfl | exact ⟨rfl, rfl, rfl⟩) ?_)
      repeat (first
       | (with_reducible first | refine AW.seq ?_ | refine AW.block ?_ | refine aThen_n ?_ | refine aBlk_n ?_ | refine AW.ret ?_ | refine aThen_r ?_ | refine aBlk_r ?_ | refine aops_done ?_ | refine AW.skip ?_ | refine AW.exit ?_ | refine aThen_e ?_ | refine aBlk_hit ?_ | refine AW.label ?_ | refine AW.scope ?_ | refine aNg_n ?_ | refine aNg_r ?_ | refine aNg_e ?_)
       | ((with_reducible refine AW.region ?_); with_reducible refine aops_run (by simp [List.replicate_succ, hzn, hw1]; first | exact rfl | exact ⟨rfl, rfl⟩) ?_)
       | ((with_reducible refine AW.draw mixedP ?_ ?_); (focus first | exact .inl rfl | exact .inr (by decide)); with_reducible refine adraw_go (by simp [List.replicate_succ, hzn, hw1]; first | exact rfl | exact ⟨rfl, rfl, rfl⟩) ?_)
       | (with_reducible refine adraw_done (by kernel_rfl) ?_)
       | ((with_reducible refine aBlk_miss ?_ ?_); focus decide)
       | ((with_reducible refine cond_t ?_ ?_); focus (simp [ev, hzn, hw1]; done))
       | ((with_reducible refine cond_f ?_ ?_); focus (simp [ev, hzn, hw1]; done)))
      refine ⟨⟨k + 1, hlt⟩, by simp only; omega, ?_⟩
      refine Le.weak (by simp [subT, sizesC])
    · repeat (first
       | (with_reducible first | refine AW.seq ?_ | refine AW.block ?_ | refine aThen_n ?_ | refine aBlk_n ?_ | refine AW.ret ?_ | refine aThen_r ?_ | refine aBlk_r ?_ | refine aops_done ?_ | refine AW.skip ?_ | refine AW.exit ?_ | refine aThen_e ?_ | refine aBlk_hit ?_ | refine AW.label ?_ | refine AW.scope ?_ | refine aNg_n ?_ | refine aNg_r ?_ | refine aNg_e ?_)
       | ((with_reducible refine AW.region ?_); with_reducible refine aops_run (by simp [List.replicate_succ, hlt, sizesC]; first | exact rfl | exact ⟨rfl, rfl⟩) ?_)
       | ((with_reducible refine AW.draw mixedP ?_ ?_); (focus first | exact .inl rfl | exact .inr (by decide)); with_reducible refine adraw_go (by simp [List.replicate_succ, hlt, sizesC]; first | exact rfl | exact ⟨rfl, rfl, rfl⟩) ?_)
       | (with_reducible refine adraw_done (by kernel_rfl) ?_)
       | ((with_reducible refine aBlk_miss ?_ ?_); focus decide)
       | ((with_reducible refine cond_t ?_ ?_); focus (simp [ev, hlt, sizesC]; done))
       | ((with_reducible refine cond_f ?_ ?_); focus (simp [ev, hlt, sizesC]; done)))
      (with_reducible first | refine aops_c (hlc) Try.func27 (by kernel_rfl) (by kernel_rfl) ?_ ?_ ?_ | refine adraw_c (hlc) Try.func27 (by kernel_rfl) (by kernel_rfl) ?_ ?_ ?_)
      focus (simp [gate]; done)
      focus (simp [pubCall]; done)
      first | (with_reducible refine aops_run (by simp [List.replicate_succ]; first | exact rfl | exact ⟨rfl, rfl⟩) ?_) | (with_reducible refine adraw_go (by simp [List.replicate_succ]; first | exact rfl | exact ⟨rfl, rfl, rfl⟩) ?_)
      (with_reducible first | refine aops_done ?_ | refine adraw_done (by kernel_rfl) ?_)
      with_reducible refine aThen_n ?_
      with_reducible refine AW.seq ?_
      with_reducible refine AW.region ?_
      repeat (first | (with_reducible refine aops_done ?_) | (with_reducible refine aops_chunk (by simp only [List.append_eq, List.cons_append, List.nil_append, List.map_cons, List.map_nil]; exact rfl) 8 (by as_aux_lemma => simp [runG, gateS, List.replicate_succ, hp, hpl, partsC, hmn]; first | exact rfl | exact ⟨rfl, rfl⟩) ?_))
      repeat (first
       | (with_reducible first | refine AW.seq ?_ | refine AW.block ?_ | refine aThen_n ?_ | refine aBlk_n ?_ | refine AW.ret ?_ | refine aThen_r ?_ | refine aBlk_r ?_ | refine aops_done ?_ | refine AW.skip ?_ | refine AW.exit ?_ | refine aThen_e ?_ | refine aBlk_hit ?_ | refine AW.label ?_ | refine AW.scope ?_ | refine aNg_n ?_ | refine aNg_r ?_ | refine aNg_e ?_)
       | ((with_reducible refine AW.region ?_); with_reducible refine aops_run (by simp [List.replicate_succ]; first | exact rfl | exact ⟨rfl, rfl⟩) ?_)
       | ((with_reducible refine AW.draw mixedP ?_ ?_); (focus first | exact .inl rfl | exact .inr (by decide)); with_reducible refine adraw_go (by simp [List.replicate_succ]; first | exact rfl | exact ⟨rfl, rfl, rfl⟩) ?_)
       | (with_reducible refine adraw_done (by kernel_rfl) ?_)
       | ((with_reducible refine aBlk_miss ?_ ?_); focus decide)
       | ((with_reducible refine cond_t ?_ ?_); focus (simp [ev]; done))
       | ((with_reducible refine cond_f ?_ ?_); focus (simp [ev]; done)))
      simp [aRet, ares, aresL, ares1, V.pub, V.pubs, ldV, Try.results6]
theorem lcovers_a (f : Font) (name : ByteArray) (n p : Int) (hf : f.Fit) : AC Try.prog 6 [.agg f.vs, .c (.str name), .agg [.c (.int .i64 n), .c (.int .i64 p)]] (.c (.bool true)) := by
  cases hS : smallB f n p with
  | false => exact lcovers_0 f name n p hf hS
  | true =>
    cases hst : f.stretch name with
    | none => exact lcovers_n f name n p hf hS hst
    | some s =>
      by_cases hge : n ≤ foundH f name n p
      · exact lcovers_g f name n p hf hS s hst hge
      · by_cases hp : s.parts = []
        · exact lcovers_l f name n p hf hS s hst (by omega) hp
        · exact lcovers_m f name n p hf hS s hst (by omega) hp
end Go.Proofs.Ythbcljjpmdfflaa
