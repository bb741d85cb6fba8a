/-
  Layer 6's laws: VariantGrows. (Printed by mklg.py.)
-/
import Derived.Test.YthbcljjpmdfflaaLk
namespace Go.Proofs.Ythbcljjpmdfflaa
open Go.RowKit
set_option linter.unusedSimpArgs false
set_option linter.unusedVariables false
set_option maxRecDepth 100000

set_option maxHeartbeats 1600000 in
theorem lgrows_1 (f : Font) (name glyph : ByteArray) (r p a b : Int) (hf : f.Fit) (ha1 : -32768 ≤ a) (ha2 : a ≤ 32767) (hb1 : -32768 ≤ b) (hb2 : b ≤ 32767) (h : a < b) (h2 : ¬ b < a) : AC Try.prog 8 [.agg f.vs, .agg [.c (.str name), .c (.str glyph), .c (.int .i64 r), .c (.int .i64 p)], .agg [.c (.int .i16 a), .c (.int .i16 b)]] (.c (.bool true)) := by
  have hsm := small_a f b p hf
  have wa : IntKind.i64.wrap a = a := wrap_i64 (by omega) (by omega)
  have wb : IntKind.i64.wrap b = b := wrap_i64 (by omega) (by omega)
  cases hS : smallB f b p with
  | false =>
      rw [hS] at hsm
      refine AC.intro Try.func8 rfl ?_
      simp only [Try.ntmps8, List.map_cons, List.map_nil, List.length_cons, List.length_nil, Nat.reduceAdd, Nat.reduceSub, List.replicate_succ, List.replicate_zero, List.cons_append, List.nil_append]
      repeat (first
       | (with_reducible first | refine AW.seq ?_ | refine AW.block ?_ | refine aThen_n ?_ | refine aBlk_n ?_ | refine AW.ret ?_ | refine aThen_r ?_ | refine aBlk_r ?_ | refine aops_done ?_ | refine AW.skip ?_ | refine AW.exit ?_ | refine aThen_e ?_ | refine aBlk_hit ?_ | refine AW.label ?_ | refine AW.scope ?_ | refine aNg_n ?_ | refine aNg_r ?_ | refine aNg_e ?_)
       | ((with_reducible refine AW.region ?_); with_reducible refine aops_run (by simp [List.replicate_succ, h, h2, wa, wb]; first | exact rfl | exact ⟨rfl, rfl⟩) ?_)
       | ((with_reducible refine AW.draw mixedP ?_ ?_); (focus first | exact .inl rfl | exact .inr (by decide)); with_reducible refine adraw_go (by simp [List.replicate_succ, h, h2, wa, wb]; first | exact rfl | exact ⟨rfl, rfl, rfl⟩) ?_)
       | (with_reducible refine adraw_done (by kernel_rfl) ?_)
       | ((with_reducible refine aBlk_miss ?_ ?_); focus decide)
       | ((with_reducible refine cond_t ?_ ?_); focus (simp [ev, h, h2, wa, wb]; done))
       | ((with_reducible refine cond_f ?_ ?_); focus (simp [ev, h, h2, wa, wb]; done)))
      (with_reducible first | refine aops_c (awake_a) Try.func21 (by kernel_rfl) (by kernel_rfl) ?_ ?_ ?_ | refine adraw_c (awake_a) Try.func21 (by kernel_rfl) (by kernel_rfl) ?_ ?_ ?_)
      focus (simp [gate]; done)
      focus (simp [pubCall]; done)
      first | (with_reducible refine aops_run (by simp [List.replicate_succ]; first | exact rfl | exact ⟨rfl, rfl⟩) ?_) | (with_reducible refine adraw_go (by simp [List.replicate_succ]; first | exact rfl | exact ⟨rfl, rfl, rfl⟩) ?_)
      repeat (first
       | (with_reducible first | refine AW.seq ?_ | refine AW.block ?_ | refine aThen_n ?_ | refine aBlk_n ?_ | refine AW.ret ?_ | refine aThen_r ?_ | refine aBlk_r ?_ | refine aops_done ?_ | refine AW.skip ?_ | refine AW.exit ?_ | refine aThen_e ?_ | refine aBlk_hit ?_ | refine AW.label ?_ | refine AW.scope ?_ | refine aNg_n ?_ | refine aNg_r ?_ | refine aNg_e ?_)
       | ((with_reducible refine AW.region ?_); with_reducible refine aops_run (by simp [List.replicate_succ, h, h2, wa, wb]; first | exact rfl | exact ⟨rfl, rfl⟩) ?_)
       | ((with_reducible refine AW.draw mixedP ?_ ?_); (focus first | exact .inl rfl | exact .inr (by decide)); with_reducible refine adraw_go (by simp [List.replicate_succ, h, h2, wa, wb]; first | exact rfl | exact ⟨rfl, rfl, rfl⟩) ?_)
       | (with_reducible refine adraw_done (by kernel_rfl) ?_)
       | ((with_reducible refine aBlk_miss ?_ ?_); focus decide)
       | ((with_reducible refine cond_t ?_ ?_); focus (simp [ev, h, h2, wa, wb]; done))
       | ((with_reducible refine cond_f ?_ ?_); focus (simp [ev, h, h2, wa, wb]; done)))
      (with_reducible first | refine aops_c (hsm) Try.func32 (by kernel_rfl) (by kernel_rfl) ?_ ?_ ?_ | refine adraw_c (hsm) Try.func32 (by kernel_rfl) (by kernel_rfl) ?_ ?_ ?_)
      focus (simp [gate]; done)
      focus (simp [pubCall]; done)
      first | (with_reducible refine aops_run (by simp [List.replicate_succ]; first | exact rfl | exact ⟨rfl, rfl⟩) ?_) | (with_reducible refine adraw_go (by simp [List.replicate_succ]; first | exact rfl | exact ⟨rfl, rfl, rfl⟩) ?_)
      repeat (first
       | (with_reducible first | refine AW.seq ?_ | refine AW.block ?_ | refine aThen_n ?_ | refine aBlk_n ?_ | refine AW.ret ?_ | refine aThen_r ?_ | refine aBlk_r ?_ | refine aops_done ?_ | refine AW.skip ?_ | refine AW.exit ?_ | refine aThen_e ?_ | refine aBlk_hit ?_ | refine AW.label ?_ | refine AW.scope ?_ | refine aNg_n ?_ | refine aNg_r ?_ | refine aNg_e ?_)
       | ((with_reducible refine AW.region ?_); with_reducible refine aops_run (by simp [List.replicate_succ]; first | exact rfl | exact ⟨rfl, rfl⟩) ?_)
       | ((with_reducible refine AW.draw mixedP ?_ ?_); (focus first | exact .inl rfl | exact .inr (by decide)); with_reducible refine adraw_go (by simp [List.replicate_succ]; first | exact rfl | exact ⟨rfl, rfl, rfl⟩) ?_)
       | (with_reducible refine adraw_done (by kernel_rfl) ?_)
       | ((with_reducible refine aBlk_miss ?_ ?_); focus decide)
       | ((with_reducible refine cond_t ?_ ?_); focus (simp [ev]; done))
       | ((with_reducible refine cond_f ?_ ?_); focus (simp [ev]; done)))
      simp [aRet, ares, aresL, ares1, V.pub, V.pubs, ldV, Try.results8]
  | true =>
      rw [hS] at hsm
      obtain ⟨hw, hv, hp1, hp2, hn, hc⟩ := small_true hS
      obtain ⟨f1, f2, f3, f4⟩ := find_height hc name a
      obtain ⟨i1, i2, i3, i4⟩ := find_height hc name b
      have fa := vFind_a vasm_a f name a p hf
      have fb := vFind_a vasm_a f name b p hf
      have hgr : b ≤ foundH f name b p → foundH f name a p ≤ foundH f name b p := grows hv name (by omega)
      obtain ⟨q, hq⟩ : ∃ q, findR f name a p = q := ⟨_, rfl⟩
      obtain ⟨q', hq'⟩ : ∃ q, findR f name b p = q := ⟨_, rfl⟩
      obtain ⟨ha, hha⟩ : ∃ x, foundH f name a p = x := ⟨_, rfl⟩
      obtain ⟨hb, hhb⟩ : ∃ x, foundH f name b p = x := ⟨_, rfl⟩
      rw [hq] at fa f1 f2
      rw [hq'] at fb i1 i2
      rw [hha] at f2 f3 f4 hgr
      rw [hhb] at i2 i3 i4 hgr
      obtain ⟨⟨bk, bn, bs, bw, bh, bd, bx, by_, kids, bo, src⟩, e⟩ := q
      obtain ⟨⟨ck, cn, cs, cw, ch, cd, cx, cy, kids', co, src'⟩, e'⟩ := q'
      simp only [boxEV, errV, boxV, Box.row, List.map_cons, List.map_nil] at fa f1 f2 fb i1 i2
      subst f1
      subst i1
      have hwa : IntKind.i64.wrap (bh + bd) = ha := by rw [f2]; exact wrap_i64 (by omega) (by omega)
      have hwb : IntKind.i64.wrap (ch + cd) = hb := by rw [i2]; exact wrap_i64 (by omega) (by omega)
      by_cases hlt : hb < b
      · refine AC.intro Try.func8 rfl ?_
        simp only [Try.ntmps8, List.map_cons, List.map_nil, List.length_cons, List.length_nil, Nat.reduceAdd, Nat.reduceSub, List.replicate_succ, List.replicate_zero, List.cons_append, List.nil_append]
        repeat (first
         | (with_reducible first | refine AW.seq ?_ | refine AW.block ?_ | refine aThen_n ?_ | refine aBlk_n ?_ | refine AW.ret ?_ | refine aThen_r ?_ | refine aBlk_r ?_ | refine aops_done ?_ | refine AW.skip ?_ | refine AW.exit ?_ | refine aThen_e ?_ | refine aBlk_hit ?_ | refine AW.label ?_ | refine AW.scope ?_ | refine aNg_n ?_ | refine aNg_r ?_ | refine aNg_e ?_)
         | ((with_reducible refine AW.region ?_); with_reducible refine aops_run (by simp [List.replicate_succ, h, h2, wa, wb]; first | exact rfl | exact ⟨rfl, rfl⟩) ?_)
         | ((with_reducible refine AW.draw mixedP ?_ ?_); (focus first | exact .inl rfl | exact .inr (by decide)); with_reducible refine adraw_go (by simp [List.replicate_succ, h, h2, wa, wb]; first | exact rfl | exact ⟨rfl, rfl, rfl⟩) ?_)
         | (with_reducible refine adraw_done (by kernel_rfl) ?_)
         | ((with_reducible refine aBlk_miss ?_ ?_); focus decide)
         | ((with_reducible refine cond_t ?_ ?_); focus (simp [ev, h, h2, wa, wb]; done))
         | ((with_reducible refine cond_f ?_ ?_); focus (simp [ev, h, h2, wa, wb]; done)))
        (with_reducible first | refine aops_c (awake_a) Try.func21 (by kernel_rfl) (by kernel_rfl) ?_ ?_ ?_ | refine adraw_c (awake_a) Try.func21 (by kernel_rfl) (by kernel_rfl) ?_ ?_ ?_)
        focus (simp [gate]; done)
        focus (simp [pubCall]; done)
        first | (with_reducible refine aops_run (by simp [List.replicate_succ]; first | exact rfl | exact ⟨rfl, rfl⟩) ?_) | (with_reducible refine adraw_go (by simp [List.replicate_succ]; first | exact rfl | exact ⟨rfl, rfl, rfl⟩) ?_)
        repeat (first
         | (with_reducible first | refine AW.seq ?_ | refine AW.block ?_ | refine aThen_n ?_ | refine aBlk_n ?_ | refine AW.ret ?_ | refine aThen_r ?_ | refine aBlk_r ?_ | refine aops_done ?_ | refine AW.skip ?_ | refine AW.exit ?_ | refine aThen_e ?_ | refine aBlk_hit ?_ | refine AW.label ?_ | refine AW.scope ?_ | refine aNg_n ?_ | refine aNg_r ?_ | refine aNg_e ?_)
         | ((with_reducible refine AW.region ?_); with_reducible refine aops_run (by simp [List.replicate_succ, h, h2, wa, wb]; first | exact rfl | exact ⟨rfl, rfl⟩) ?_)
         | ((with_reducible refine AW.draw mixedP ?_ ?_); (focus first | exact .inl rfl | exact .inr (by decide)); with_reducible refine adraw_go (by simp [List.replicate_succ, h, h2, wa, wb]; first | exact rfl | exact ⟨rfl, rfl, rfl⟩) ?_)
         | (with_reducible refine adraw_done (by kernel_rfl) ?_)
         | ((with_reducible refine aBlk_miss ?_ ?_); focus decide)
         | ((with_reducible refine cond_t ?_ ?_); focus (simp [ev, h, h2, wa, wb]; done))
         | ((with_reducible refine cond_f ?_ ?_); focus (simp [ev, h, h2, wa, wb]; done)))
        (with_reducible first | refine aops_c (hsm) Try.func32 (by kernel_rfl) (by kernel_rfl) ?_ ?_ ?_ | refine adraw_c (hsm) Try.func32 (by kernel_rfl) (by kernel_rfl) ?_ ?_ ?_)
        focus (simp [gate]; done)
        focus (simp [pubCall]; done)
        first | (with_reducible refine aops_run (by simp [List.replicate_succ]; first | exact rfl | exact ⟨rfl, rfl⟩) ?_) | (with_reducible refine adraw_go (by simp [List.replicate_succ]; first | exact rfl | exact ⟨rfl, rfl, rfl⟩) ?_)
        repeat (first
         | (with_reducible first | refine AW.seq ?_ | refine AW.block ?_ | refine aThen_n ?_ | refine aBlk_n ?_ | refine AW.ret ?_ | refine aThen_r ?_ | refine aBlk_r ?_ | refine aops_done ?_ | refine AW.skip ?_ | refine AW.exit ?_ | refine aThen_e ?_ | refine aBlk_hit ?_ | refine AW.label ?_ | refine AW.scope ?_ | refine aNg_n ?_ | refine aNg_r ?_ | refine aNg_e ?_)
         | ((with_reducible refine AW.region ?_); with_reducible refine aops_run (by simp [List.replicate_succ]; first | exact rfl | exact ⟨rfl, rfl⟩) ?_)
         | ((with_reducible refine AW.draw mixedP ?_ ?_); (focus first | exact .inl rfl | exact .inr (by decide)); with_reducible refine adraw_go (by simp [List.replicate_succ]; first | exact rfl | exact ⟨rfl, rfl, rfl⟩) ?_)
         | (with_reducible refine adraw_done (by kernel_rfl) ?_)
         | ((with_reducible refine aBlk_miss ?_ ?_); focus decide)
         | ((with_reducible refine cond_t ?_ ?_); focus (simp [ev]; done))
         | ((with_reducible refine cond_f ?_ ?_); focus (simp [ev]; done)))
        (with_reducible first | refine aops_c (fa) Try.func30 (by kernel_rfl) (by kernel_rfl) ?_ ?_ ?_ | refine adraw_c (fa) Try.func30 (by kernel_rfl) (by kernel_rfl) ?_ ?_ ?_)
        focus (simp [gate]; done)
        focus (simp [pubCall]; done)
        first | (with_reducible refine aops_run (by simp [List.replicate_succ]; first | exact rfl | exact ⟨rfl, rfl⟩) ?_) | (with_reducible refine adraw_go (by simp [List.replicate_succ]; first | exact rfl | exact ⟨rfl, rfl, rfl⟩) ?_)
        repeat (first
         | (with_reducible first | refine AW.seq ?_ | refine AW.block ?_ | refine aThen_n ?_ | refine aBlk_n ?_ | refine AW.ret ?_ | refine aThen_r ?_ | refine aBlk_r ?_ | refine aops_done ?_ | refine AW.skip ?_ | refine AW.exit ?_ | refine aThen_e ?_ | refine aBlk_hit ?_ | refine AW.label ?_ | refine AW.scope ?_ | refine aNg_n ?_ | refine aNg_r ?_ | refine aNg_e ?_)
         | ((with_reducible refine AW.region ?_); with_reducible refine aops_run (by simp [List.replicate_succ]; first | exact rfl | exact ⟨rfl, rfl⟩) ?_)
         | ((with_reducible refine AW.draw mixedP ?_ ?_); (focus first | exact .inl rfl | exact .inr (by decide)); with_reducible refine adraw_go (by simp [List.replicate_succ]; first | exact rfl | exact ⟨rfl, rfl, rfl⟩) ?_)
         | (with_reducible refine adraw_done (by kernel_rfl) ?_)
         | ((with_reducible refine aBlk_miss ?_ ?_); focus decide)
         | ((with_reducible refine cond_t ?_ ?_); focus (simp [ev]; done))
         | ((with_reducible refine cond_f ?_ ?_); focus (simp [ev]; done)))
        (with_reducible first | refine aops_c (fb) Try.func30 (by kernel_rfl) (by kernel_rfl) ?_ ?_ ?_ | refine adraw_c (fb) Try.func30 (by kernel_rfl) (by kernel_rfl) ?_ ?_ ?_)
        focus (simp [gate]; done)
        focus (simp [pubCall]; done)
        first | (with_reducible refine aops_run (by simp [List.replicate_succ]; first | exact rfl | exact ⟨rfl, rfl⟩) ?_) | (with_reducible refine adraw_go (by simp [List.replicate_succ]; first | exact rfl | exact ⟨rfl, rfl, rfl⟩) ?_)
        (with_reducible first | refine aops_done ?_ | refine adraw_done (by kernel_rfl) ?_)
        with_reducible refine aThen_n ?_
        with_reducible refine AW.seq ?_
        with_reducible refine AW.region ?_
        repeat (first | (with_reducible refine aops_done ?_) | (with_reducible refine aops_chunk (by simp only [List.append_eq, List.cons_append, List.nil_append, List.map_cons, List.map_nil]; exact rfl) 8 (by as_aux_lemma => simp [runG, gateS, List.replicate_succ, hwa, hwb, hlt]; first | exact rfl | exact ⟨rfl, rfl⟩) ?_))
        repeat (first
         | (with_reducible first | refine AW.seq ?_ | refine AW.block ?_ | refine aThen_n ?_ | refine aBlk_n ?_ | refine AW.ret ?_ | refine aThen_r ?_ | refine aBlk_r ?_ | refine aops_done ?_ | refine AW.skip ?_ | refine AW.exit ?_ | refine aThen_e ?_ | refine aBlk_hit ?_ | refine AW.label ?_ | refine AW.scope ?_ | refine aNg_n ?_ | refine aNg_r ?_ | refine aNg_e ?_)
         | ((with_reducible refine AW.region ?_); with_reducible refine aops_run (by simp [List.replicate_succ]; first | exact rfl | exact ⟨rfl, rfl⟩) ?_)
         | ((with_reducible refine AW.draw mixedP ?_ ?_); (focus first | exact .inl rfl | exact .inr (by decide)); with_reducible refine adraw_go (by simp [List.replicate_succ]; first | exact rfl | exact ⟨rfl, rfl, rfl⟩) ?_)
         | (with_reducible refine adraw_done (by kernel_rfl) ?_)
         | ((with_reducible refine aBlk_miss ?_ ?_); focus decide)
         | ((with_reducible refine cond_t ?_ ?_); focus (simp [ev]; done))
         | ((with_reducible refine cond_f ?_ ?_); focus (simp [ev]; done)))
        simp [aRet, ares, aresL, ares1, V.pub, V.pubs, ldV, Try.results8]
      · have hge := hgr (by omega)
        refine AC.intro Try.func8 rfl ?_
        simp only [Try.ntmps8, List.map_cons, List.map_nil, List.length_cons, List.length_nil, Nat.reduceAdd, Nat.reduceSub, List.replicate_succ, List.replicate_zero, List.cons_append, List.nil_append]
        repeat (first
         | (with_reducible first | refine AW.seq ?_ | refine AW.block ?_ | refine aThen_n ?_ | refine aBlk_n ?_ | refine AW.ret ?_ | refine aThen_r ?_ | refine aBlk_r ?_ | refine aops_done ?_ | refine AW.skip ?_ | refine AW.exit ?_ | refine aThen_e ?_ | refine aBlk_hit ?_ | refine AW.label ?_ | refine AW.scope ?_ | refine aNg_n ?_ | refine aNg_r ?_ | refine aNg_e ?_)
         | ((with_reducible refine AW.region ?_); with_reducible refine aops_run (by simp [List.replicate_succ, h, h2, wa, wb]; first | exact rfl | exact ⟨rfl, rfl⟩) ?_)
         | ((with_reducible refine AW.draw mixedP ?_ ?_); (focus first | exact .inl rfl | exact .inr (by decide)); with_reducible refine adraw_go (by simp [List.replicate_succ, h, h2, wa, wb]; first | exact rfl | exact ⟨rfl, rfl, rfl⟩) ?_)
         | (with_reducible refine adraw_done (by kernel_rfl) ?_)
         | ((with_reducible refine aBlk_miss ?_ ?_); focus decide)
         | ((with_reducible refine cond_t ?_ ?_); focus (simp [ev, h, h2, wa, wb]; done))
         | ((with_reducible refine cond_f ?_ ?_); focus (simp [ev, h, h2, wa, wb]; done)))
        (with_reducible first | refine aops_c (awake_a) Try.func21 (by kernel_rfl) (by kernel_rfl) ?_ ?_ ?_ | refine adraw_c (awake_a) Try.func21 (by kernel_rfl) (by kernel_rfl) ?_ ?_ ?_)
        focus (simp [gate]; done)
        focus (simp [pubCall]; done)
        first | (with_reducible refine aops_run (by simp [List.replicate_succ]; first | exact rfl | exact ⟨rfl, rfl⟩) ?_) | (with_reducible refine adraw_go (by simp [List.replicate_succ]; first | exact rfl | exact ⟨rfl, rfl, rfl⟩) ?_)
        repeat (first
         | (with_reducible first | refine AW.seq ?_ | refine AW.block ?_ | refine aThen_n ?_ | refine aBlk_n ?_ | refine AW.ret ?_ | refine aThen_r ?_ | refine aBlk_r ?_ | refine aops_done ?_ | refine AW.skip ?_ | refine AW.exit ?_ | refine aThen_e ?_ | refine aBlk_hit ?_ | refine AW.label ?_ | refine AW.scope ?_ | refine aNg_n ?_ | refine aNg_r ?_ | refine aNg_e ?_)
         | ((with_reducible refine AW.region ?_); with_reducible refine aops_run (by simp [List.replicate_succ, h, h2, wa, wb]; first | exact rfl | exact ⟨rfl, rfl⟩) ?_)
         | ((with_reducible refine AW.draw mixedP ?_ ?_); (focus first | exact .inl rfl | exact .inr (by decide)); with_reducible refine adraw_go (by simp [List.replicate_succ, h, h2, wa, wb]; first | exact rfl | exact ⟨rfl, rfl, rfl⟩) ?_)
         | (with_reducible refine adraw_done (by kernel_rfl) ?_)
         | ((with_reducible refine aBlk_miss ?_ ?_); focus decide)
         | ((with_reducible refine cond_t ?_ ?_); focus (simp [ev, h, h2, wa, wb]; done))
         | ((with_reducible refine cond_f ?_ ?_); focus (simp [ev, h, h2, wa, wb]; done)))
        (with_reducible first | refine aops_c (hsm) Try.func32 (by kernel_rfl) (by kernel_rfl) ?_ ?_ ?_ | refine adraw_c (hsm) Try.func32 (by kernel_rfl) (by kernel_rfl) ?_ ?_ ?_)
        focus (simp [gate]; done)
        focus (simp [pubCall]; done)
        first | (with_reducible refine aops_run (by simp [List.replicate_succ]; first | exact rfl | exact ⟨rfl, rfl⟩) ?_) | (with_reducible refine adraw_go (by simp [List.replicate_succ]; first | exact rfl | exact ⟨rfl, rfl, rfl⟩) ?_)
        repeat (first
         | (with_reducible first | refine AW.seq ?_ | refine AW.block ?_ | refine aThen_n ?_ | refine aBlk_n ?_ | refine AW.ret ?_ | refine aThen_r ?_ | refine aBlk_r ?_ | refine aops_done ?_ | refine AW.skip ?_ | refine AW.exit ?_ | refine aThen_e ?_ | refine aBlk_hit ?_ | refine AW.label ?_ | refine AW.scope ?_ | refine aNg_n ?_ | refine aNg_r ?_ | refine aNg_e ?_)
         | ((with_reducible refine AW.region ?_); with_reducible refine aops_run (by simp [List.replicate_succ]; first | exact rfl | exact ⟨rfl, rfl⟩) ?_)
         | ((with_reducible refine AW.draw mixedP ?_ ?_); (focus first | exact .inl rfl | exact .inr (by decide)); with_reducible refine adraw_go (by simp [List.replicate_succ]; first | exact rfl | exact ⟨rfl, rfl, rfl⟩) ?_)
         | (with_reducible refine adraw_done (by kernel_rfl) ?_)
         | ((with_reducible refine aBlk_miss ?_ ?_); focus decide)
         | ((with_reducible refine cond_t ?_ ?_); focus (simp [ev]; done))
         | ((with_reducible refine cond_f ?_ ?_); focus (simp [ev]; done)))
        (with_reducible first | refine aops_c (fa) Try.func30 (by kernel_rfl) (by kernel_rfl) ?_ ?_ ?_ | refine adraw_c (fa) Try.func30 (by kernel_rfl) (by kernel_rfl) ?_ ?_ ?_)
        focus (simp [gate]; done)
        focus (simp [pubCall]; done)
        first | (with_reducible refine aops_run (by simp [List.replicate_succ]; first | exact rfl | exact ⟨rfl, rfl⟩) ?_) | (with_reducible refine adraw_go (by simp [List.replicate_succ]; first | exact rfl | exact ⟨rfl, rfl, rfl⟩) ?_)
        repeat (first
         | (with_reducible first | refine AW.seq ?_ | refine AW.block ?_ | refine aThen_n ?_ | refine aBlk_n ?_ | refine AW.ret ?_ | refine aThen_r ?_ | refine aBlk_r ?_ | refine aops_done ?_ | refine AW.skip ?_ | refine AW.exit ?_ | refine aThen_e ?_ | refine aBlk_hit ?_ | refine AW.label ?_ | refine AW.scope ?_ | refine aNg_n ?_ | refine aNg_r ?_ | refine aNg_e ?_)
         | ((with_reducible refine AW.region ?_); with_reducible refine aops_run (by simp [List.replicate_succ]; first | exact rfl | exact ⟨rfl, rfl⟩) ?_)
         | ((with_reducible refine AW.draw mixedP ?_ ?_); (focus first | exact .inl rfl | exact .inr (by decide)); with_reducible refine adraw_go (by simp [List.replicate_succ]; first | exact rfl | exact ⟨rfl, rfl, rfl⟩) ?_)
         | (with_reducible refine adraw_done (by kernel_rfl) ?_)
         | ((with_reducible refine aBlk_miss ?_ ?_); focus decide)
         | ((with_reducible refine cond_t ?_ ?_); focus (simp [ev]; done))
         | ((with_reducible refine cond_f ?_ ?_); focus (simp [ev]; done)))
        (with_reducible first | refine aops_c (fb) Try.func30 (by kernel_rfl) (by kernel_rfl) ?_ ?_ ?_ | refine adraw_c (fb) Try.func30 (by kernel_rfl) (by kernel_rfl) ?_ ?_ ?_)
        focus (simp [gate]; done)
        focus (simp [pubCall]; done)
        first | (with_reducible refine aops_run (by simp [List.replicate_succ]; first | exact rfl | exact ⟨rfl, rfl⟩) ?_) | (with_reducible refine adraw_go (by simp [List.replicate_succ]; first | exact rfl | exact ⟨rfl, rfl, rfl⟩) ?_)
        (with_reducible first | refine aops_done ?_ | refine adraw_done (by kernel_rfl) ?_)
        with_reducible refine aThen_n ?_
        with_reducible refine AW.seq ?_
        with_reducible refine AW.region ?_
        repeat (first | (with_reducible refine aops_done ?_) | (with_reducible refine aops_chunk (by simp only [List.append_eq, List.cons_append, List.nil_append, List.map_cons, List.map_nil]; exact rfl) 8 (by as_aux_lemma => simp [runG, gateS, List.replicate_succ, hwa, hwb, hlt, hge]; first | exact rfl | exact ⟨rfl, rfl⟩) ?_))
        repeat (first
         | (with_reducible first | refine AW.seq ?_ | refine AW.block ?_ | refine aThen_n ?_ | refine aBlk_n ?_ | refine AW.ret ?_ | refine aThen_r ?_ | refine aBlk_r ?_ | refine aops_done ?_ | refine AW.skip ?_ | refine AW.exit ?_ | refine aThen_e ?_ | refine aBlk_hit ?_ | refine AW.label ?_ | refine AW.scope ?_ | refine aNg_n ?_ | refine aNg_r ?_ | refine aNg_e ?_)
         | ((with_reducible refine AW.region ?_); with_reducible refine aops_run (by simp [List.replicate_succ]; first | exact rfl | exact ⟨rfl, rfl⟩) ?_)
         | ((with_reducible refine AW.draw mixedP ?_ ?_); (focus first | exact .inl rfl | exact .inr (by decide)); with_reducible refine adraw_go (by simp [List.replicate_succ]; first | exact rfl | exact ⟨rfl, rfl, rfl⟩) ?_)
         | (with_reducible refine adraw_done (by kernel_rfl) ?_)
         | ((with_reducible refine aBlk_miss ?_ ?_); focus decide)
         | ((with_reducible refine cond_t ?_ ?_); focus (simp [ev]; done))
         | ((with_reducible refine cond_f ?_ ?_); focus (simp [ev]; done)))
        simp [aRet, ares, aresL, ares1, V.pub, V.pubs, ldV, Try.results8]
set_option maxHeartbeats 1600000 in
theorem lgrows_2 (f : Font) (name glyph : ByteArray) (r p a b : Int) (hf : f.Fit) (ha1 : -32768 ≤ a) (ha2 : a ≤ 32767) (hb1 : -32768 ≤ b) (hb2 : b ≤ 32767) (h : b < a) (h2 : ¬ a < b) : AC Try.prog 8 [.agg f.vs, .agg [.c (.str name), .c (.str glyph), .c (.int .i64 r), .c (.int .i64 p)], .agg [.c (.int .i16 a), .c (.int .i16 b)]] (.c (.bool true)) := by
  have hsm := small_a f a p hf
  have wa : IntKind.i64.wrap a = a := wrap_i64 (by omega) (by omega)
  have wb : IntKind.i64.wrap b = b := wrap_i64 (by omega) (by omega)
  cases hS : smallB f a p with
  | false =>
      rw [hS] at hsm
      refine AC.intro Try.func8 rfl ?_
      simp only [Try.ntmps8, List.map_cons, List.map_nil, List.length_cons, List.length_nil, Nat.reduceAdd, Nat.reduceSub, List.replicate_succ, List.replicate_zero, List.cons_append, List.nil_append]
      repeat (first
       | (with_reducible first | refine AW.seq ?_ | refine AW.block ?_ | refine aThen_n ?_ | refine aBlk_n ?_ | refine AW.ret ?_ | refine aThen_r ?_ | refine aBlk_r ?_ | refine aops_done ?_ | refine AW.skip ?_ | refine AW.exit ?_ | refine aThen_e ?_ | refine aBlk_hit ?_ | refine AW.label ?_ | refine AW.scope ?_ | refine aNg_n ?_ | refine aNg_r ?_ | refine aNg_e ?_)
       | ((with_reducible refine AW.region ?_); with_reducible refine aops_run (by simp [List.replicate_succ, h, h2, wa, wb]; first | exact rfl | exact ⟨rfl, rfl⟩) ?_)
       | ((with_reducible refine AW.draw mixedP ?_ ?_); (focus first | exact .inl rfl | exact .inr (by decide)); with_reducible refine adraw_go (by simp [List.replicate_succ, h, h2, wa, wb]; first | exact rfl | exact ⟨rfl, rfl, rfl⟩) ?_)
       | (with_reducible refine adraw_done (by kernel_rfl) ?_)
       | ((with_reducible refine aBlk_miss ?_ ?_); focus decide)
       | ((with_reducible refine cond_t ?_ ?_); focus (simp [ev, h, h2, wa, wb]; done))
       | ((with_reducible refine cond_f ?_ ?_); focus (simp [ev, h, h2, wa, wb]; done)))
      (with_reducible first | refine aops_c (awake_a) Try.func21 (by kernel_rfl) (by kernel_rfl) ?_ ?_ ?_ | refine adraw_c (awake_a) Try.func21 (by kernel_rfl) (by kernel_rfl) ?_ ?_ ?_)
      focus (simp [gate]; done)
      focus (simp [pubCall]; done)
      first | (with_reducible refine aops_run (by simp [List.replicate_succ]; first | exact rfl | exact ⟨rfl, rfl⟩) ?_) | (with_reducible refine adraw_go (by simp [List.replicate_succ]; first | exact rfl | exact ⟨rfl, rfl, rfl⟩) ?_)
      repeat (first
       | (with_reducible first | refine AW.seq ?_ | refine AW.block ?_ | refine aThen_n ?_ | refine aBlk_n ?_ | refine AW.ret ?_ | refine aThen_r ?_ | refine aBlk_r ?_ | refine aops_done ?_ | refine AW.skip ?_ | refine AW.exit ?_ | refine aThen_e ?_ | refine aBlk_hit ?_ | refine AW.label ?_ | refine AW.scope ?_ | refine aNg_n ?_ | refine aNg_r ?_ | refine aNg_e ?_)
       | ((with_reducible refine AW.region ?_); with_reducible refine aops_run (by simp [List.replicate_succ, h, h2, wa, wb]; first | exact rfl | exact ⟨rfl, rfl⟩) ?_)
       | ((with_reducible refine AW.draw mixedP ?_ ?_); (focus first | exact .inl rfl | exact .inr (by decide)); with_reducible refine adraw_go (by simp [List.replicate_succ, h, h2, wa, wb]; first | exact rfl | exact ⟨rfl, rfl, rfl⟩) ?_)
       | (with_reducible refine adraw_done (by kernel_rfl) ?_)
       | ((with_reducible refine aBlk_miss ?_ ?_); focus decide)
       | ((with_reducible refine cond_t ?_ ?_); focus (simp [ev, h, h2, wa, wb]; done))
       | ((with_reducible refine cond_f ?_ ?_); focus (simp [ev, h, h2, wa, wb]; done)))
      (with_reducible first | refine aops_c (hsm) Try.func32 (by kernel_rfl) (by kernel_rfl) ?_ ?_ ?_ | refine adraw_c (hsm) Try.func32 (by kernel_rfl) (by kernel_rfl) ?_ ?_ ?_)
      focus (simp [gate]; done)
      focus (simp [pubCall]; done)
      first | (with_reducible refine aops_run (by simp [List.replicate_succ]; first | exact rfl | exact ⟨rfl, rfl⟩) ?_) | (with_reducible refine adraw_go (by simp [List.replicate_succ]; first | exact rfl | exact ⟨rfl, rfl, rfl⟩) ?_)
      repeat (first
       | (with_reducible first | refine AW.seq ?_ | refine AW.block ?_ | refine aThen_n ?_ | refine aBlk_n ?_ | refine AW.ret ?_ | refine aThen_r ?_ | refine aBlk_r ?_ | refine aops_done ?_ | refine AW.skip ?_ | refine AW.exit ?_ | refine aThen_e ?_ | refine aBlk_hit ?_ | refine AW.label ?_ | refine AW.scope ?_ | refine aNg_n ?_ | refine aNg_r ?_ | refine aNg_e ?_)
       | ((with_reducible refine AW.region ?_); with_reducible refine aops_run (by simp [List.replicate_succ]; first | exact rfl | exact ⟨rfl, rfl⟩) ?_)
       | ((with_reducible refine AW.draw mixedP ?_ ?_); (focus first | exact .inl rfl | exact .inr (by decide)); with_reducible refine adraw_go (by simp [List.replicate_succ]; first | exact rfl | exact ⟨rfl, rfl, rfl⟩) ?_)
       | (with_reducible refine adraw_done (by kernel_rfl) ?_)
       | ((with_reducible refine aBlk_miss ?_ ?_); focus decide)
       | ((with_reducible refine cond_t ?_ ?_); focus (simp [ev]; done))
       | ((with_reducible refine cond_f ?_ ?_); focus (simp [ev]; done)))
      simp [aRet, ares, aresL, ares1, V.pub, V.pubs, ldV, Try.results8]
  | true =>
      rw [hS] at hsm
      obtain ⟨hw, hv, hp1, hp2, hn, hc⟩ := small_true hS
      obtain ⟨f1, f2, f3, f4⟩ := find_height hc name b
      obtain ⟨i1, i2, i3, i4⟩ := find_height hc name a
      have fa := vFind_a vasm_a f name b p hf
      have fb := vFind_a vasm_a f name a p hf
      have hgr : a ≤ foundH f name a p → foundH f name b p ≤ foundH f name a p := grows hv name (by omega)
      obtain ⟨q, hq⟩ : ∃ q, findR f name b p = q := ⟨_, rfl⟩
      obtain ⟨q', hq'⟩ : ∃ q, findR f name a p = q := ⟨_, rfl⟩
      obtain ⟨ha, hha⟩ : ∃ x, foundH f name b p = x := ⟨_, rfl⟩
      obtain ⟨hb, hhb⟩ : ∃ x, foundH f name a p = x := ⟨_, rfl⟩
      rw [hq] at fa f1 f2
      rw [hq'] at fb i1 i2
      rw [hha] at f2 f3 f4 hgr
      rw [hhb] at i2 i3 i4 hgr
      obtain ⟨⟨bk, bn, bs, bw, bh, bd, bx, by_, kids, bo, src⟩, e⟩ := q
      obtain ⟨⟨ck, cn, cs, cw, ch, cd, cx, cy, kids', co, src'⟩, e'⟩ := q'
      simp only [boxEV, errV, boxV, Box.row, List.map_cons, List.map_nil] at fa f1 f2 fb i1 i2
      subst f1
      subst i1
      have hwa : IntKind.i64.wrap (bh + bd) = ha := by rw [f2]; exact wrap_i64 (by omega) (by omega)
      have hwb : IntKind.i64.wrap (ch + cd) = hb := by rw [i2]; exact wrap_i64 (by omega) (by omega)
      by_cases hlt : hb < a
      · refine AC.intro Try.func8 rfl ?_
        simp only [Try.ntmps8, List.map_cons, List.map_nil, List.length_cons, List.length_nil, Nat.reduceAdd, Nat.reduceSub, List.replicate_succ, List.replicate_zero, List.cons_append, List.nil_append]
        repeat (first
         | (with_reducible first | refine AW.seq ?_ | refine AW.block ?_ | refine aThen_n ?_ | refine aBlk_n ?_ | refine AW.ret ?_ | refine aThen_r ?_ | refine aBlk_r ?_ | refine aops_done ?_ | refine AW.skip ?_ | refine AW.exit ?_ | refine aThen_e ?_ | refine aBlk_hit ?_ | refine AW.label ?_ | refine AW.scope ?_ | refine aNg_n ?_ | refine aNg_r ?_ | refine aNg_e ?_)
         | ((with_reducible refine AW.region ?_); with_reducible refine aops_run (by simp [List.replicate_succ, h, h2, wa, wb]; first | exact rfl | exact ⟨rfl, rfl⟩) ?_)
         | ((with_reducible refine AW.draw mixedP ?_ ?_); (focus first | exact .inl rfl | exact .inr (by decide)); with_reducible refine adraw_go (by simp [List.replicate_succ, h, h2, wa, wb]; first | exact rfl | exact ⟨rfl, rfl, rfl⟩) ?_)
         | (with_reducible refine adraw_done (by kernel_rfl) ?_)
         | ((with_reducible refine aBlk_miss ?_ ?_); focus decide)
         | ((with_reducible refine cond_t ?_ ?_); focus (simp [ev, h, h2, wa, wb]; done))
         | ((with_reducible refine cond_f ?_ ?_); focus (simp [ev, h, h2, wa, wb]; done)))
        (with_reducible first | refine aops_c (awake_a) Try.func21 (by kernel_rfl) (by kernel_rfl) ?_ ?_ ?_ | refine adraw_c (awake_a) Try.func21 (by kernel_rfl) (by kernel_rfl) ?_ ?_ ?_)
        focus (simp [gate]; done)
        focus (simp [pubCall]; done)
        first | (with_reducible refine aops_run (by simp [List.replicate_succ]; first | exact rfl | exact ⟨rfl, rfl⟩) ?_) | (with_reducible refine adraw_go (by simp [List.replicate_succ]; first | exact rfl | exact ⟨rfl, rfl, rfl⟩) ?_)
        repeat (first
         | (with_reducible first | refine AW.seq ?_ | refine AW.block ?_ | refine aThen_n ?_ | refine aBlk_n ?_ | refine AW.ret ?_ | refine aThen_r ?_ | refine aBlk_r ?_ | refine aops_done ?_ | refine AW.skip ?_ | refine AW.exit ?_ | refine aThen_e ?_ | refine aBlk_hit ?_ | refine AW.label ?_ | refine AW.scope ?_ | refine aNg_n ?_ | refine aNg_r ?_ | refine aNg_e ?_)
         | ((with_reducible refine AW.region ?_); with_reducible refine aops_run (by simp [List.replicate_succ, h, h2, wa, wb]; first | exact rfl | exact ⟨rfl, rfl⟩) ?_)
         | ((with_reducible refine AW.draw mixedP ?_ ?_); (focus first | exact .inl rfl | exact .inr (by decide)); with_reducible refine adraw_go (by simp [List.replicate_succ, h, h2, wa, wb]; first | exact rfl | exact ⟨rfl, rfl, rfl⟩) ?_)
         | (with_reducible refine adraw_done (by kernel_rfl) ?_)
         | ((with_reducible refine aBlk_miss ?_ ?_); focus decide)
         | ((with_reducible refine cond_t ?_ ?_); focus (simp [ev, h, h2, wa, wb]; done))
         | ((with_reducible refine cond_f ?_ ?_); focus (simp [ev, h, h2, wa, wb]; done)))
        (with_reducible first | refine aops_c (hsm) Try.func32 (by kernel_rfl) (by kernel_rfl) ?_ ?_ ?_ | refine adraw_c (hsm) Try.func32 (by kernel_rfl) (by kernel_rfl) ?_ ?_ ?_)
        focus (simp [gate]; done)
        focus (simp [pubCall]; done)
        first | (with_reducible refine aops_run (by simp [List.replicate_succ]; first | exact rfl | exact ⟨rfl, rfl⟩) ?_) | (with_reducible refine adraw_go (by simp [List.replicate_succ]; first | exact rfl | exact ⟨rfl, rfl, rfl⟩) ?_)
        repeat (first
         | (with_reducible first | refine AW.seq ?_ | refine AW.block ?_ | refine aThen_n ?_ | refine aBlk_n ?_ | refine AW.ret ?_ | refine aThen_r ?_ | refine aBlk_r ?_ | refine aops_done ?_ | refine AW.skip ?_ | refine AW.exit ?_ | refine aThen_e ?_ | refine aBlk_hit ?_ | refine AW.label ?_ | refine AW.scope ?_ | refine aNg_n ?_ | refine aNg_r ?_ | refine aNg_e ?_)
         | ((with_reducible refine AW.region ?_); with_reducible refine aops_run (by simp [List.replicate_succ]; first | exact rfl | exact ⟨rfl, rfl⟩) ?_)
         | ((with_reducible refine AW.draw mixedP ?_ ?_); (focus first | exact .inl rfl | exact .inr (by decide)); with_reducible refine adraw_go (by simp [List.replicate_succ]; first | exact rfl | exact ⟨rfl, rfl, rfl⟩) ?_)
         | (with_reducible refine adraw_done (by kernel_rfl) ?_)
         | ((with_reducible refine aBlk_miss ?_ ?_); focus decide)
         | ((with_reducible refine cond_t ?_ ?_); focus (simp [ev]; done))
         | ((with_reducible refine cond_f ?_ ?_); focus (simp [ev]; done)))
        (with_reducible first | refine aops_c (fa) Try.func30 (by kernel_rfl) (by kernel_rfl) ?_ ?_ ?_ | refine adraw_c (fa) Try.func30 (by kernel_rfl) (by kernel_rfl) ?_ ?_ ?_)
        focus (simp [gate]; done)
        focus (simp [pubCall]; done)
        first | (with_reducible refine aops_run (by simp [List.replicate_succ]; first | exact rfl | exact ⟨rfl, rfl⟩) ?_) | (with_reducible refine adraw_go (by simp [List.replicate_succ]; first | exact rfl | exact ⟨rfl, rfl, rfl⟩) ?_)
        repeat (first
         | (with_reducible first | refine AW.seq ?_ | refine AW.block ?_ | refine aThen_n ?_ | refine aBlk_n ?_ | refine AW.ret ?_ | refine aThen_r ?_ | refine aBlk_r ?_ | refine aops_done ?_ | refine AW.skip ?_ | refine AW.exit ?_ | refine aThen_e ?_ | refine aBlk_hit ?_ | refine AW.label ?_ | refine AW.scope ?_ | refine aNg_n ?_ | refine aNg_r ?_ | refine aNg_e ?_)
         | ((with_reducible refine AW.region ?_); with_reducible refine aops_run (by simp [List.replicate_succ]; first | exact rfl | exact ⟨rfl, rfl⟩) ?_)
         | ((with_reducible refine AW.draw mixedP ?_ ?_); (focus first | exact .inl rfl | exact .inr (by decide)); with_reducible refine adraw_go (by simp [List.replicate_succ]; first | exact rfl | exact ⟨rfl, rfl, rfl⟩) ?_)
         | (with_reducible refine adraw_done (by kernel_rfl) ?_)
         | ((with_reducible refine aBlk_miss ?_ ?_); focus decide)
         | ((with_reducible refine cond_t ?_ ?_); focus (simp [ev]; done))
         | ((with_reducible refine cond_f ?_ ?_); focus (simp [ev]; done)))
        (with_reducible first | refine aops_c (fb) Try.func30 (by kernel_rfl) (by kernel_rfl) ?_ ?_ ?_ | refine adraw_c (fb) Try.func30 (by kernel_rfl) (by kernel_rfl) ?_ ?_ ?_)
        focus (simp [gate]; done)
        focus (simp [pubCall]; done)
        first | (with_reducible refine aops_run (by simp [List.replicate_succ]; first | exact rfl | exact ⟨rfl, rfl⟩) ?_) | (with_reducible refine adraw_go (by simp [List.replicate_succ]; first | exact rfl | exact ⟨rfl, rfl, rfl⟩) ?_)
        (with_reducible first | refine aops_done ?_ | refine adraw_done (by kernel_rfl) ?_)
        with_reducible refine aThen_n ?_
        with_reducible refine AW.seq ?_
        with_reducible refine AW.region ?_
        repeat (first | (with_reducible refine aops_done ?_) | (with_reducible refine aops_chunk (by simp only [List.append_eq, List.cons_append, List.nil_append, List.map_cons, List.map_nil]; exact rfl) 8 (by as_aux_lemma => simp [runG, gateS, List.replicate_succ, hwa, hwb, hlt]; first | exact rfl | exact ⟨rfl, rfl⟩) ?_))
        repeat (first
         | (with_reducible first | refine AW.seq ?_ | refine AW.block ?_ | refine aThen_n ?_ | refine aBlk_n ?_ | refine AW.ret ?_ | refine aThen_r ?_ | refine aBlk_r ?_ | refine aops_done ?_ | refine AW.skip ?_ | refine AW.exit ?_ | refine aThen_e ?_ | refine aBlk_hit ?_ | refine AW.label ?_ | refine AW.scope ?_ | refine aNg_n ?_ | refine aNg_r ?_ | refine aNg_e ?_)
         | ((with_reducible refine AW.region ?_); with_reducible refine aops_run (by simp [List.replicate_succ]; first | exact rfl | exact ⟨rfl, rfl⟩) ?_)
         | ((with_reducible refine AW.draw mixedP ?_ ?_); (focus first | exact .inl rfl | exact .inr (by decide)); with_reducible refine adraw_go (by simp [List.replicate_succ]; first | exact rfl | exact ⟨rfl, rfl, rfl⟩) ?_)
         | (with_reducible refine adraw_done (by kernel_rfl) ?_)
         | ((with_reducible refine aBlk_miss ?_ ?_); focus decide)
         | ((with_reducible refine cond_t ?_ ?_); focus (simp [ev]; done))
         | ((with_reducible refine cond_f ?_ ?_); focus (simp [ev]; done)))
        simp [aRet, ares, aresL, ares1, V.pub, V.pubs, ldV, Try.results8]
      · have hge := hgr (by omega)
        refine AC.intro Try.func8 rfl ?_
        simp only [Try.ntmps8, List.map_cons, List.map_nil, List.length_cons, List.length_nil, Nat.reduceAdd, Nat.reduceSub, List.replicate_succ, List.replicate_zero, List.cons_append, List.nil_append]
        repeat (first
         | (with_reducible first | refine AW.seq ?_ | refine AW.block ?_ | refine aThen_n ?_ | refine aBlk_n ?_ | refine AW.ret ?_ | refine aThen_r ?_ | refine aBlk_r ?_ | refine aops_done ?_ | refine AW.skip ?_ | refine AW.exit ?_ | refine aThen_e ?_ | refine aBlk_hit ?_ | refine AW.label ?_ | refine AW.scope ?_ | refine aNg_n ?_ | refine aNg_r ?_ | refine aNg_e ?_)
         | ((with_reducible refine AW.region ?_); with_reducible refine aops_run (by simp [List.replicate_succ, h, h2, wa, wb]; first | exact rfl | exact ⟨rfl, rfl⟩) ?_)
         | ((with_reducible refine AW.draw mixedP ?_ ?_); (focus first | exact .inl rfl | exact .inr (by decide)); with_reducible refine adraw_go (by simp [List.replicate_succ, h, h2, wa, wb]; first | exact rfl | exact ⟨rfl, rfl, rfl⟩) ?_)
         | (with_reducible refine adraw_done (by kernel_rfl) ?_)
         | ((with_reducible refine aBlk_miss ?_ ?_); focus decide)
         | ((with_reducible refine cond_t ?_ ?_); focus (simp [ev, h, h2, wa, wb]; done))
         | ((with_reducible refine cond_f ?_ ?_); focus (simp [ev, h, h2, wa, wb]; done)))
        (with_reducible first | refine aops_c (awake_a) Try.func21 (by kernel_rfl) (by kernel_rfl) ?_ ?_ ?_ | refine adraw_c (awake_a) Try.func21 (by kernel_rfl) (by kernel_rfl) ?_ ?_ ?_)
        focus (simp [gate]; done)
        focus (simp [pubCall]; done)
        first | (with_reducible refine aops_run (by simp [List.replicate_succ]; first | exact rfl | exact ⟨rfl, rfl⟩) ?_) | (with_reducible refine adraw_go (by simp [List.replicate_succ]; first | exact rfl | exact ⟨rfl, rfl, rfl⟩) ?_)
        repeat (first
         | (with_reducible first | refine AW.seq ?_ | refine AW.block ?_ | refine aThen_n ?_ | refine aBlk_n ?_ | refine AW.ret ?_ | refine aThen_r ?_ | refine aBlk_r ?_ | refine aops_done ?_ | refine AW.skip ?_ | refine AW.exit ?_ | refine aThen_e ?_ | refine aBlk_hit ?_ | refine AW.label ?_ | refine AW.scope ?_ | refine aNg_n ?_ | refine aNg_r ?_ | refine aNg_e ?_)
         | ((with_reducible refine AW.region ?_); with_reducible refine aops_run (by simp [List.replicate_succ, h, h2, wa, wb]; first | exact rfl | exact ⟨rfl, rfl⟩) ?_)
         | ((with_reducible refine AW.draw mixedP ?_ ?_); (focus first | exact .inl rfl | exact .inr (by decide)); with_reducible refine adraw_go (by simp [List.replicate_succ, h, h2, wa, wb]; first | exact rfl | exact ⟨rfl, rfl, rfl⟩) ?_)
         | (with_reducible refine adraw_done (by kernel_rfl) ?_)
         | ((with_reducible refine aBlk_miss ?_ ?_); focus decide)
         | ((with_reducible refine cond_t ?_ ?_); focus (simp [ev, h, h2, wa, wb]; done))
         | ((with_reducible refine cond_f ?_ ?_); focus (simp [ev, h, h2, wa, wb]; done)))
        (with_reducible first | refine aops_c (hsm) Try.func32 (by kernel_rfl) (by kernel_rfl) ?_ ?_ ?_ | refine adraw_c (hsm) Try.func32 (by kernel_rfl) (by kernel_rfl) ?_ ?_ ?_)
        focus (simp [gate]; done)
        focus (simp [pubCall]; done)
        first | (with_reducible refine aops_run (by simp [List.replicate_succ]; first | exact rfl | exact ⟨rfl, rfl⟩) ?_) | (with_reducible refine adraw_go (by simp [List.replicate_succ]; first | exact rfl | exact ⟨rfl, rfl, rfl⟩) ?_)
        repeat (first
         | (with_reducible first | refine AW.seq ?_ | refine AW.block ?_ | refine aThen_n ?_ | refine aBlk_n ?_ | refine AW.ret ?_ | refine aThen_r ?_ | refine aBlk_r ?_ | refine aops_done ?_ | refine AW.skip ?_ | refine AW.exit ?_ | refine aThen_e ?_ | refine aBlk_hit ?_ | refine AW.label ?_ | refine AW.scope ?_ | refine aNg_n ?_ | refine aNg_r ?_ | refine aNg_e ?_)
         | ((with_reducible refine AW.region ?_); with_reducible refine aops_run (by simp [List.replicate_succ]; first | exact rfl | exact ⟨rfl, rfl⟩) ?_)
         | ((with_reducible refine AW.draw mixedP ?_ ?_); (focus first | exact .inl rfl | exact .inr (by decide)); with_reducible refine adraw_go (by simp [List.replicate_succ]; first | exact rfl | exact ⟨rfl, rfl, rfl⟩) ?_)
         | (with_reducible refine adraw_done (by kernel_rfl) ?_)
         | ((with_reducible refine aBlk_miss ?_ ?_); focus decide)
         | ((with_reducible refine cond_t ?_ ?_); focus (simp [ev]; done))
         | ((with_reducible refine cond_f ?_ ?_); focus (simp [ev]; done)))
        (with_reducible first | refine aops_c (fa) Try.func30 (by kernel_rfl) (by kernel_rfl) ?_ ?_ ?_ | refine adraw_c (fa) Try.func30 (by kernel_rfl) (by kernel_rfl) ?_ ?_ ?_)
        focus (simp [gate]; done)
        focus (simp [pubCall]; done)
        first | (with_reducible refine aops_run (by simp [List.replicate_succ]; first | exact rfl | exact ⟨rfl, rfl⟩) ?_) | (with_reducible refine adraw_go (by simp [List.replicate_succ]; first | exact rfl | exact ⟨rfl, rfl, rfl⟩) ?_)
        repeat (first
         | (with_reducible first | refine AW.seq ?_ | refine AW.block ?_ | refine aThen_n ?_ | refine aBlk_n ?_ | refine AW.ret ?_ | refine aThen_r ?_ | refine aBlk_r ?_ | refine aops_done ?_ | refine AW.skip ?_ | refine AW.exit ?_ | refine aThen_e ?_ | refine aBlk_hit ?_ | refine AW.label ?_ | refine AW.scope ?_ | refine aNg_n ?_ | refine aNg_r ?_ | refine aNg_e ?_)
         | ((with_reducible refine AW.region ?_); with_reducible refine aops_run (by simp [List.replicate_succ]; first | exact rfl | exact ⟨rfl, rfl⟩) ?_)
         | ((with_reducible refine AW.draw mixedP ?_ ?_); (focus first | exact .inl rfl | exact .inr (by decide)); with_reducible refine adraw_go (by simp [List.replicate_succ]; first | exact rfl | exact ⟨rfl, rfl, rfl⟩) ?_)
         | (with_reducible refine adraw_done (by kernel_rfl) ?_)
         | ((with_reducible refine aBlk_miss ?_ ?_); focus decide)
         | ((with_reducible refine cond_t ?_ ?_); focus (simp [ev]; done))
         | ((with_reducible refine cond_f ?_ ?_); focus (simp [ev]; done)))
        (with_reducible first | refine aops_c (fb) Try.func30 (by kernel_rfl) (by kernel_rfl) ?_ ?_ ?_ | refine adraw_c (fb) Try.func30 (by kernel_rfl) (by kernel_rfl) ?_ ?_ ?_)
        focus (simp [gate]; done)
        focus (simp [pubCall]; done)
        first | (with_reducible refine aops_run (by simp [List.replicate_succ]; first | exact rfl | exact ⟨rfl, rfl⟩) ?_) | (with_reducible refine adraw_go (by simp [List.replicate_succ]; first | exact rfl | exact ⟨rfl, rfl, rfl⟩) ?_)
        (with_reducible first | refine aops_done ?_ | refine adraw_done (by kernel_rfl) ?_)
        with_reducible refine aThen_n ?_
        with_reducible refine AW.seq ?_
        with_reducible refine AW.region ?_
        repeat (first | (with_reducible refine aops_done ?_) | (with_reducible refine aops_chunk (by simp only [List.append_eq, List.cons_append, List.nil_append, List.map_cons, List.map_nil]; exact rfl) 8 (by as_aux_lemma => simp [runG, gateS, List.replicate_succ, hwa, hwb, hlt, hge]; first | exact rfl | exact ⟨rfl, rfl⟩) ?_))
        repeat (first
         | (with_reducible first | refine AW.seq ?_ | refine AW.block ?_ | refine aThen_n ?_ | refine aBlk_n ?_ | refine AW.ret ?_ | refine aThen_r ?_ | refine aBlk_r ?_ | refine aops_done ?_ | refine AW.skip ?_ | refine AW.exit ?_ | refine aThen_e ?_ | refine aBlk_hit ?_ | refine AW.label ?_ | refine AW.scope ?_ | refine aNg_n ?_ | refine aNg_r ?_ | refine aNg_e ?_)
         | ((with_reducible refine AW.region ?_); with_reducible refine aops_run (by simp [List.replicate_succ]; first | exact rfl | exact ⟨rfl, rfl⟩) ?_)
         | ((with_reducible refine AW.draw mixedP ?_ ?_); (focus first | exact .inl rfl | exact .inr (by decide)); with_reducible refine adraw_go (by simp [List.replicate_succ]; first | exact rfl | exact ⟨rfl, rfl, rfl⟩) ?_)
         | (with_reducible refine adraw_done (by kernel_rfl) ?_)
         | ((with_reducible refine aBlk_miss ?_ ?_); focus decide)
         | ((with_reducible refine cond_t ?_ ?_); focus (simp [ev]; done))
         | ((with_reducible refine cond_f ?_ ?_); focus (simp [ev]; done)))
        simp [aRet, ares, aresL, ares1, V.pub, V.pubs, ldV, Try.results8]
set_option maxHeartbeats 1600000 in
theorem lgrows_3 (f : Font) (name glyph : ByteArray) (r p a b : Int) (hf : f.Fit) (ha1 : -32768 ≤ a) (ha2 : a ≤ 32767) (hb1 : -32768 ≤ b) (hb2 : b ≤ 32767) (h : ¬ b < a) (h2 : ¬ a < b) : AC Try.prog 8 [.agg f.vs, .agg [.c (.str name), .c (.str glyph), .c (.int .i64 r), .c (.int .i64 p)], .agg [.c (.int .i16 a), .c (.int .i16 b)]] (.c (.bool true)) := by
  have hsm := small_a f a p hf
  have wa : IntKind.i64.wrap a = a := wrap_i64 (by omega) (by omega)
  have wb : IntKind.i64.wrap b = b := wrap_i64 (by omega) (by omega)
  cases hS : smallB f a p with
  | false =>
      rw [hS] at hsm
      refine AC.intro Try.func8 rfl ?_
      simp only [Try.ntmps8, List.map_cons, List.map_nil, List.length_cons, List.length_nil, Nat.reduceAdd, Nat.reduceSub, List.replicate_succ, List.replicate_zero, List.cons_append, List.nil_append]
      repeat (first
       | (with_reducible first | refine AW.seq ?_ | refine AW.block ?_ | refine aThen_n ?_ | refine aBlk_n ?_ | refine AW.ret ?_ | refine aThen_r ?_ | refine aBlk_r ?_ | refine aops_done ?_ | refine AW.skip ?_ | refine AW.exit ?_ | refine aThen_e ?_ | refine aBlk_hit ?_ | refine AW.label ?_ | refine AW.scope ?_ | refine aNg_n ?_ | refine aNg_r ?_ | refine aNg_e ?_)
       | ((with_reducible refine AW.region ?_); with_reducible refine aops_run (by simp [List.replicate_succ, h, h2, wa, wb]; first | exact rfl | exact ⟨rfl, rfl⟩) ?_)
       | ((with_reducible refine AW.draw mixedP ?_ ?_); (focus first | exact .inl rfl | exact .inr (by decide)); with_reducible refine adraw_go (by simp [List.replicate_succ, h, h2, wa, wb]; first | exact rfl | exact ⟨rfl, rfl, rfl⟩) ?_)
       | (with_reducible refine adraw_done (by kernel_rfl) ?_)
       | ((with_reducible refine aBlk_miss ?_ ?_); focus decide)
       | ((with_reducible refine cond_t ?_ ?_); focus (simp [ev, h, h2, wa, wb]; done))
       | ((with_reducible refine cond_f ?_ ?_); focus (simp [ev, h, h2, wa, wb]; done)))
      (with_reducible first | refine aops_c (awake_a) Try.func21 (by kernel_rfl) (by kernel_rfl) ?_ ?_ ?_ | refine adraw_c (awake_a) Try.func21 (by kernel_rfl) (by kernel_rfl) ?_ ?_ ?_)
      focus (simp [gate]; done)
      focus (simp [pubCall]; done)
      first | (with_reducible refine aops_run (by simp [List.replicate_succ]; first | exact rfl | exact ⟨rfl, rfl⟩) ?_) | (with_reducible refine adraw_go (by simp [List.replicate_succ]; first | exact rfl | exact ⟨rfl, rfl, rfl⟩) ?_)
      repeat (first
       | (with_reducible first | refine AW.seq ?_ | refine AW.block ?_ | refine aThen_n ?_ | refine aBlk_n ?_ | refine AW.ret ?_ | refine aThen_r ?_ | refine aBlk_r ?_ | refine aops_done ?_ | refine AW.skip ?_ | refine AW.exit ?_ | refine aThen_e ?_ | refine aBlk_hit ?_ | refine AW.label ?_ | refine AW.scope ?_ | refine aNg_n ?_ | refine aNg_r ?_ | refine aNg_e ?_)
       | ((with_reducible refine AW.region ?_); with_reducible refine aops_run (by simp [List.replicate_succ, h, h2, wa, wb]; first | exact rfl | exact ⟨rfl, rfl⟩) ?_)
       | ((with_reducible refine AW.draw mixedP ?_ ?_); (focus first | exact .inl rfl | exact .inr (by decide)); with_reducible refine adraw_go (by simp [List.replicate_succ, h, h2, wa, wb]; first | exact rfl | exact ⟨rfl, rfl, rfl⟩) ?_)
       | (with_reducible refine adraw_done (by kernel_rfl) ?_)
       | ((with_reducible refine aBlk_miss ?_ ?_); focus decide)
       | ((with_reducible refine cond_t ?_ ?_); focus (simp [ev, h, h2, wa, wb]; done))
       | ((with_reducible refine cond_f ?_ ?_); focus (simp [ev, h, h2, wa, wb]; done)))
      (with_reducible first | refine aops_c (hsm) Try.func32 (by kernel_rfl) (by kernel_rfl) ?_ ?_ ?_ | refine adraw_c (hsm) Try.func32 (by kernel_rfl) (by kernel_rfl) ?_ ?_ ?_)
      focus (simp [gate]; done)
      focus (simp [pubCall]; done)
      first | (with_reducible refine aops_run (by simp [List.replicate_succ]; first | exact rfl | exact ⟨rfl, rfl⟩) ?_) | (with_reducible refine adraw_go (by simp [List.replicate_succ]; first | exact rfl | exact ⟨rfl, rfl, rfl⟩) ?_)
      repeat (first
       | (with_reducible first | refine AW.seq ?_ | refine AW.block ?_ | refine aThen_n ?_ | refine aBlk_n ?_ | refine AW.ret ?_ | refine aThen_r ?_ | refine aBlk_r ?_ | refine aops_done ?_ | refine AW.skip ?_ | refine AW.exit ?_ | refine aThen_e ?_ | refine aBlk_hit ?_ | refine AW.label ?_ | refine AW.scope ?_ | refine aNg_n ?_ | refine aNg_r ?_ | refine aNg_e ?_)
       | ((with_reducible refine AW.region ?_); with_reducible refine aops_run (by simp [List.replicate_succ]; first | exact rfl | exact ⟨rfl, rfl⟩) ?_)
       | ((with_reducible refine AW.draw mixedP ?_ ?_); (focus first | exact .inl rfl | exact .inr (by decide)); with_reducible refine adraw_go (by simp [List.replicate_succ]; first | exact rfl | exact ⟨rfl, rfl, rfl⟩) ?_)
       | (with_reducible refine adraw_done (by kernel_rfl) ?_)
       | ((with_reducible refine aBlk_miss ?_ ?_); focus decide)
       | ((with_reducible refine cond_t ?_ ?_); focus (simp [ev]; done))
       | ((with_reducible refine cond_f ?_ ?_); focus (simp [ev]; done)))
      simp [aRet, ares, aresL, ares1, V.pub, V.pubs, ldV, Try.results8]
  | true =>
      rw [hS] at hsm
      obtain ⟨hw, hv, hp1, hp2, hn, hc⟩ := small_true hS
      obtain ⟨f1, f2, f3, f4⟩ := find_height hc name a
      have fa := vFind_a vasm_a f name a p hf
      obtain ⟨q, hq⟩ : ∃ q, findR f name a p = q := ⟨_, rfl⟩
      obtain ⟨ha, hha⟩ : ∃ x, foundH f name a p = x := ⟨_, rfl⟩
      rw [hq] at fa f1 f2
      rw [hha] at f2 f3 f4
      obtain ⟨⟨bk, bn, bs, bw, bh, bd, bx, by_, kids, bo, src⟩, e⟩ := q
      simp only [boxEV, errV, boxV, Box.row, List.map_cons, List.map_nil] at fa f1 f2
      subst f1
      have hwa : IntKind.i64.wrap (bh + bd) = ha := by rw [f2]; exact wrap_i64 (by omega) (by omega)
      by_cases hlt : ha < a
      · refine AC.intro Try.func8 rfl ?_
        simp only [Try.ntmps8, List.map_cons, List.map_nil, List.length_cons, List.length_nil, Nat.reduceAdd, Nat.reduceSub, List.replicate_succ, List.replicate_zero, List.cons_append, List.nil_append]
        repeat (first
         | (with_reducible first | refine AW.seq ?_ | refine AW.block ?_ | refine aThen_n ?_ | refine aBlk_n ?_ | refine AW.ret ?_ | refine aThen_r ?_ | refine aBlk_r ?_ | refine aops_done ?_ | refine AW.skip ?_ | refine AW.exit ?_ | refine aThen_e ?_ | refine aBlk_hit ?_ | refine AW.label ?_ | refine AW.scope ?_ | refine aNg_n ?_ | refine aNg_r ?_ | refine aNg_e ?_)
         | ((with_reducible refine AW.region ?_); with_reducible refine aops_run (by simp [List.replicate_succ, h, h2, wa, wb]; first | exact rfl | exact ⟨rfl, rfl⟩) ?_)
         | ((with_reducible refine AW.draw mixedP ?_ ?_); (focus first | exact .inl rfl | exact .inr (by decide)); with_reducible refine adraw_go (by simp [List.replicate_succ, h, h2, wa, wb]; first | exact rfl | exact ⟨rfl, rfl, rfl⟩) ?_)
         | (with_reducible refine adraw_done (by kernel_rfl) ?_)
         | ((with_reducible refine aBlk_miss ?_ ?_); focus decide)
         | ((with_reducible refine cond_t ?_ ?_); focus (simp [ev, h, h2, wa, wb]; done))
         | ((with_reducible refine cond_f ?_ ?_); focus (simp [ev, h, h2, wa, wb]; done)))
        (with_reducible first | refine aops_c (awake_a) Try.func21 (by kernel_rfl) (by kernel_rfl) ?_ ?_ ?_ | refine adraw_c (awake_a) Try.func21 (by kernel_rfl) (by kernel_rfl) ?_ ?_ ?_)
        focus (simp [gate]; done)
        focus (simp [pubCall]; done)
        first | (with_reducible refine aops_run (by simp [List.replicate_succ]; first | exact rfl | exact ⟨rfl, rfl⟩) ?_) | (with_reducible refine adraw_go (by simp [List.replicate_succ]; first | exact rfl | exact ⟨rfl, rfl, rfl⟩) ?_)
        repeat (first
         | (with_reducible first | refine AW.seq ?_ | refine AW.block ?_ | refine aThen_n ?_ | refine aBlk_n ?_ | refine AW.ret ?_ | refine aThen_r ?_ | refine aBlk_r ?_ | refine aops_done ?_ | refine AW.skip ?_ | refine AW.exit ?_ | refine aThen_e ?_ | refine aBlk_hit ?_ | refine AW.label ?_ | refine AW.scope ?_ | refine aNg_n ?_ | refine aNg_r ?_ | refine aNg_e ?_)
         | ((with_reducible refine AW.region ?_); with_reducible refine aops_run (by simp [List.replicate_succ, h, h2, wa, wb]; first | exact rfl | exact ⟨rfl, rfl⟩) ?_)
         | ((with_reducible refine AW.draw mixedP ?_ ?_); (focus first | exact .inl rfl | exact .inr (by decide)); with_reducible refine adraw_go (by simp [List.replicate_succ, h, h2, wa, wb]; first | exact rfl | exact ⟨rfl, rfl, rfl⟩) ?_)
         | (with_reducible refine adraw_done (by kernel_rfl) ?_)
         | ((with_reducible refine aBlk_miss ?_ ?_); focus decide)
         | ((with_reducible refine cond_t ?_ ?_); focus (simp [ev, h, h2, wa, wb]; done))
         | ((with_reducible refine cond_f ?_ ?_); focus (simp [ev, h, h2, wa, wb]; done)))
        (with_reducible first | refine aops_c (hsm) Try.func32 (by kernel_rfl) (by kernel_rfl) ?_ ?_ ?_ | refine adraw_c (hsm) Try.func32 (by kernel_rfl) (by kernel_rfl) ?_ ?_ ?_)
        focus (simp [gate]; done)
        focus (simp [pubCall]; done)
        first | (with_reducible refine aops_run (by simp [List.replicate_succ]; first | exact rfl | exact ⟨rfl, rfl⟩) ?_) | (with_reducible refine adraw_go (by simp [List.replicate_succ]; first | exact rfl | exact ⟨rfl, rfl, rfl⟩) ?_)
        repeat (first
         | (with_reducible first | refine AW.seq ?_ | refine AW.block ?_ | refine aThen_n ?_ | refine aBlk_n ?_ | refine AW.ret ?_ | refine aThen_r ?_ | refine aBlk_r ?_ | refine aops_done ?_ | refine AW.skip ?_ | refine AW.exit ?_ | refine aThen_e ?_ | refine aBlk_hit ?_ | refine AW.label ?_ | refine AW.scope ?_ | refine aNg_n ?_ | refine aNg_r ?_ | refine aNg_e ?_)
         | ((with_reducible refine AW.region ?_); with_reducible refine aops_run (by simp [List.replicate_succ]; first | exact rfl | exact ⟨rfl, rfl⟩) ?_)
         | ((with_reducible refine AW.draw mixedP ?_ ?_); (focus first | exact .inl rfl | exact .inr (by decide)); with_reducible refine adraw_go (by simp [List.replicate_succ]; first | exact rfl | exact ⟨rfl, rfl, rfl⟩) ?_)
         | (with_reducible refine adraw_done (by kernel_rfl) ?_)
         | ((with_reducible refine aBlk_miss ?_ ?_); focus decide)
         | ((with_reducible refine cond_t ?_ ?_); focus (simp [ev]; done))
         | ((with_reducible refine cond_f ?_ ?_); focus (simp [ev]; done)))
        (with_reducible first | refine aops_c (fa) Try.func30 (by kernel_rfl) (by kernel_rfl) ?_ ?_ ?_ | refine adraw_c (fa) Try.func30 (by kernel_rfl) (by kernel_rfl) ?_ ?_ ?_)
        focus (simp [gate]; done)
        focus (simp [pubCall]; done)
        first | (with_reducible refine aops_run (by simp [List.replicate_succ]; first | exact rfl | exact ⟨rfl, rfl⟩) ?_) | (with_reducible refine adraw_go (by simp [List.replicate_succ]; first | exact rfl | exact ⟨rfl, rfl, rfl⟩) ?_)
        repeat (first
         | (with_reducible first | refine AW.seq ?_ | refine AW.block ?_ | refine aThen_n ?_ | refine aBlk_n ?_ | refine AW.ret ?_ | refine aThen_r ?_ | refine aBlk_r ?_ | refine aops_done ?_ | refine AW.skip ?_ | refine AW.exit ?_ | refine aThen_e ?_ | refine aBlk_hit ?_ | refine AW.label ?_ | refine AW.scope ?_ | refine aNg_n ?_ | refine aNg_r ?_ | refine aNg_e ?_)
         | ((with_reducible refine AW.region ?_); with_reducible refine aops_run (by simp [List.replicate_succ]; first | exact rfl | exact ⟨rfl, rfl⟩) ?_)
         | ((with_reducible refine AW.draw mixedP ?_ ?_); (focus first | exact .inl rfl | exact .inr (by decide)); with_reducible refine adraw_go (by simp [List.replicate_succ]; first | exact rfl | exact ⟨rfl, rfl, rfl⟩) ?_)
         | (with_reducible refine adraw_done (by kernel_rfl) ?_)
         | ((with_reducible refine aBlk_miss ?_ ?_); focus decide)
         | ((with_reducible refine cond_t ?_ ?_); focus (simp [ev]; done))
         | ((with_reducible refine cond_f ?_ ?_); focus (simp [ev]; done)))
        (with_reducible first | refine aops_c (fa) Try.func30 (by kernel_rfl) (by kernel_rfl) ?_ ?_ ?_ | refine adraw_c (fa) Try.func30 (by kernel_rfl) (by kernel_rfl) ?_ ?_ ?_)
        focus (simp [gate]; done)
        focus (simp [pubCall]; done)
        first | (with_reducible refine aops_run (by simp [List.replicate_succ]; first | exact rfl | exact ⟨rfl, rfl⟩) ?_) | (with_reducible refine adraw_go (by simp [List.replicate_succ]; first | exact rfl | exact ⟨rfl, rfl, rfl⟩) ?_)
        (with_reducible first | refine aops_done ?_ | refine adraw_done (by kernel_rfl) ?_)
        with_reducible refine aThen_n ?_
        with_reducible refine AW.seq ?_
        with_reducible refine AW.region ?_
        repeat (first | (with_reducible refine aops_done ?_) | (with_reducible refine aops_chunk (by simp only [List.append_eq, List.cons_append, List.nil_append, List.map_cons, List.map_nil]; exact rfl) 8 (by as_aux_lemma => simp [runG, gateS, List.replicate_succ, hwa, hlt]; first | exact rfl | exact ⟨rfl, rfl⟩) ?_))
        repeat (first
         | (with_reducible first | refine AW.seq ?_ | refine AW.block ?_ | refine aThen_n ?_ | refine aBlk_n ?_ | refine AW.ret ?_ | refine aThen_r ?_ | refine aBlk_r ?_ | refine aops_done ?_ | refine AW.skip ?_ | refine AW.exit ?_ | refine aThen_e ?_ | refine aBlk_hit ?_ | refine AW.label ?_ | refine AW.scope ?_ | refine aNg_n ?_ | refine aNg_r ?_ | refine aNg_e ?_)
         | ((with_reducible refine AW.region ?_); with_reducible refine aops_run (by simp [List.replicate_succ]; first | exact rfl | exact ⟨rfl, rfl⟩) ?_)
         | ((with_reducible refine AW.draw mixedP ?_ ?_); (focus first | exact .inl rfl | exact .inr (by decide)); with_reducible refine adraw_go (by simp [List.replicate_succ]; first | exact rfl | exact ⟨rfl, rfl, rfl⟩) ?_)
         | (with_reducible refine adraw_done (by kernel_rfl) ?_)
         | ((with_reducible refine aBlk_miss ?_ ?_); focus decide)
         | ((with_reducible refine cond_t ?_ ?_); focus (simp [ev]; done))
         | ((with_reducible refine cond_f ?_ ?_); focus (simp [ev]; done)))
        simp [aRet, ares, aresL, ares1, V.pub, V.pubs, ldV, Try.results8]
      · refine AC.intro Try.func8 rfl ?_
        simp only [Try.ntmps8, List.map_cons, List.map_nil, List.length_cons, List.length_nil, Nat.reduceAdd, Nat.reduceSub, List.replicate_succ, List.replicate_zero, List.cons_append, List.nil_append]
        repeat (first
         | (with_reducible first | refine AW.seq ?_ | refine AW.block ?_ | refine aThen_n ?_ | refine aBlk_n ?_ | refine AW.ret ?_ | refine aThen_r ?_ | refine aBlk_r ?_ | refine aops_done ?_ | refine AW.skip ?_ | refine AW.exit ?_ | refine aThen_e ?_ | refine aBlk_hit ?_ | refine AW.label ?_ | refine AW.scope ?_ | refine aNg_n ?_ | refine aNg_r ?_ | refine aNg_e ?_)
         | ((with_reducible refine AW.region ?_); with_reducible refine aops_run (by simp [List.replicate_succ, h, h2, wa, wb]; first | exact rfl | exact ⟨rfl, rfl⟩) ?_)
         | ((with_reducible refine AW.draw mixedP ?_ ?_); (focus first | exact .inl rfl | exact .inr (by decide)); with_reducible refine adraw_go (by simp [List.replicate_succ, h, h2, wa, wb]; first | exact rfl | exact ⟨rfl, rfl, rfl⟩) ?_)
         | (with_reducible refine adraw_done (by kernel_rfl) ?_)
         | ((with_reducible refine aBlk_miss ?_ ?_); focus decide)
         | ((with_reducible refine cond_t ?_ ?_); focus (simp [ev, h, h2, wa, wb]; done))
         | ((with_reducible refine cond_f ?_ ?_); focus (simp [ev, h, h2, wa, wb]; done)))
        (with_reducible first | refine aops_c (awake_a) Try.func21 (by kernel_rfl) (by kernel_rfl) ?_ ?_ ?_ | refine adraw_c (awake_a) Try.func21 (by kernel_rfl) (by kernel_rfl) ?_ ?_ ?_)
        focus (simp [gate]; done)
        focus (simp [pubCall]; done)
        first | (with_reducible refine aops_run (by simp [List.replicate_succ]; first | exact rfl | exact ⟨rfl, rfl⟩) ?_) | (with_reducible refine adraw_go (by simp [List.replicate_succ]; first | exact rfl | exact ⟨rfl, rfl, rfl⟩) ?_)
        repeat (first
         | (with_reducible first | refine AW.seq ?_ | refine AW.block ?_ | refine aThen_n ?_ | refine aBlk_n ?_ | refine AW.ret ?_ | refine aThen_r ?_ | refine aBlk_r ?_ | refine aops_done ?_ | refine AW.skip ?_ | refine AW.exit ?_ | refine aThen_e ?_ | refine aBlk_hit ?_ | refine AW.label ?_ | refine AW.scope ?_ | refine aNg_n ?_ | refine aNg_r ?_ | refine aNg_e ?_)
         | ((with_reducible refine AW.region ?_); with_reducible refine aops_run (by simp [List.replicate_succ, h, h2, wa, wb]; first | exact rfl | exact ⟨rfl, rfl⟩) ?_)
         | ((with_reducible refine AW.draw mixedP ?_ ?_); (focus first | exact .inl rfl | exact .inr (by decide)); with_reducible refine adraw_go (by simp [List.replicate_succ, h, h2, wa, wb]; first | exact rfl | exact ⟨rfl, rfl, rfl⟩) ?_)
         | (with_reducible refine adraw_done (by kernel_rfl) ?_)
         | ((with_reducible refine aBlk_miss ?_ ?_); focus decide)
         | ((with_reducible refine cond_t ?_ ?_); focus (simp [ev, h, h2, wa, wb]; done))
         | ((with_reducible refine cond_f ?_ ?_); focus (simp [ev, h, h2, wa, wb]; done)))
        (with_reducible first | refine aops_c (hsm) Try.func32 (by kernel_rfl) (by kernel_rfl) ?_ ?_ ?_ | refine adraw_c (hsm) Try.func32 (by kernel_rfl) (by kernel_rfl) ?_ ?_ ?_)
        focus (simp [gate]; done)
        focus (simp [pubCall]; done)
        first | (with_reducible refine aops_run (by simp [List.replicate_succ]; first | exact rfl | exact ⟨rfl, rfl⟩) ?_) | (with_reducible refine adraw_go (by simp [List.replicate_succ]; first | exact rfl | exact ⟨rfl, rfl, rfl⟩) ?_)
        repeat (first
         | (with_reducible first | refine AW.seq ?_ | refine AW.block ?_ | refine aThen_n ?_ | refine aBlk_n ?_ | refine AW.ret ?_ | refine aThen_r ?_ | refine aBlk_r ?_ | refine aops_done ?_ | refine AW.skip ?_ | refine AW.exit ?_ | refine aThen_e ?_ | refine aBlk_hit ?_ | refine AW.label ?_ | refine AW.scope ?_ | refine aNg_n ?_ | refine aNg_r ?_ | refine aNg_e ?_)
         | ((with_reducible refine AW.region ?_); with_reducible refine aops_run (by simp [List.replicate_succ]; first | exact rfl | exact ⟨rfl, rfl⟩) ?_)
         | ((with_reducible refine AW.draw mixedP ?_ ?_); (focus first | exact .inl rfl | exact .inr (by decide)); with_reducible refine adraw_go (by simp [List.replicate_succ]; first | exact rfl | exact ⟨rfl, rfl, rfl⟩) ?_)
         | (with_reducible refine adraw_done (by kernel_rfl) ?_)
         | ((with_reducible refine aBlk_miss ?_ ?_); focus decide)
         | ((with_reducible refine cond_t ?_ ?_); focus (simp [ev]; done))
         | ((with_reducible refine cond_f ?_ ?_); focus (simp [ev]; done)))
        (with_reducible first | refine aops_c (fa) Try.func30 (by kernel_rfl) (by kernel_rfl) ?_ ?_ ?_ | refine adraw_c (fa) Try.func30 (by kernel_rfl) (by kernel_rfl) ?_ ?_ ?_)
        focus (simp [gate]; done)
        focus (simp [pubCall]; done)
        first | (with_reducible refine aops_run (by simp [List.replicate_succ]; first | exact rfl | exact ⟨rfl, rfl⟩) ?_) | (with_reducible refine adraw_go (by simp [List.replicate_succ]; first | exact rfl | exact ⟨rfl, rfl, rfl⟩) ?_)
        repeat (first
         | (with_reducible first | refine AW.seq ?_ | refine AW.block ?_ | refine aThen_n ?_ | refine aBlk_n ?_ | refine AW.ret ?_ | refine aThen_r ?_ | refine aBlk_r ?_ | refine aops_done ?_ | refine AW.skip ?_ | refine AW.exit ?_ | refine aThen_e ?_ | refine aBlk_hit ?_ | refine AW.label ?_ | refine AW.scope ?_ | refine aNg_n ?_ | refine aNg_r ?_ | refine aNg_e ?_)
         | ((with_reducible refine AW.region ?_); with_reducible refine aops_run (by simp [List.replicate_succ]; first | exact rfl | exact ⟨rfl, rfl⟩) ?_)
         | ((with_reducible refine AW.draw mixedP ?_ ?_); (focus first | exact .inl rfl | exact .inr (by decide)); with_reducible refine adraw_go (by simp [List.replicate_succ]; first | exact rfl | exact ⟨rfl, rfl, rfl⟩) ?_)
         | (with_reducible refine adraw_done (by kernel_rfl) ?_)
         | ((with_reducible refine aBlk_miss ?_ ?_); focus decide)
         | ((with_reducible refine cond_t ?_ ?_); focus (simp [ev]; done))
         | ((with_reducible refine cond_f ?_ ?_); focus (simp [ev]; done)))
        (with_reducible first | refine aops_c (fa) Try.func30 (by kernel_rfl) (by kernel_rfl) ?_ ?_ ?_ | refine adraw_c (fa) Try.func30 (by kernel_rfl) (by kernel_rfl) ?_ ?_ ?_)
        focus (simp [gate]; done)
        focus (simp [pubCall]; done)
        first | (with_reducible refine aops_run (by simp [List.replicate_succ]; first | exact rfl | exact ⟨rfl, rfl⟩) ?_) | (with_reducible refine adraw_go (by simp [List.replicate_succ]; first | exact rfl | exact ⟨rfl, rfl, rfl⟩) ?_)
        (with_reducible first | refine aops_done ?_ | refine adraw_done (by kernel_rfl) ?_)
        with_reducible refine aThen_n ?_
        with_reducible refine AW.seq ?_
        with_reducible refine AW.region ?_
        repeat (first | (with_reducible refine aops_done ?_) | (with_reducible refine aops_chunk (by simp only [List.append_eq, List.cons_append, List.nil_append, List.map_cons, List.map_nil]; exact rfl) 8 (by as_aux_lemma => simp [runG, gateS, List.replicate_succ, hwa, hlt]; first | exact rfl | exact ⟨rfl, rfl⟩) ?_))
        repeat (first
         | (with_reducible first | refine AW.seq ?_ | refine AW.block ?_ | refine aThen_n ?_ | refine aBlk_n ?_ | refine AW.ret ?_ | refine aThen_r ?_ | refine aBlk_r ?_ | refine aops_done ?_ | refine AW.skip ?_ | refine AW.exit ?_ | refine aThen_e ?_ | refine aBlk_hit ?_ | refine AW.label ?_ | refine AW.scope ?_ | refine aNg_n ?_ | refine aNg_r ?_ | refine aNg_e ?_)
         | ((with_reducible refine AW.region ?_); with_reducible refine aops_run (by simp [List.replicate_succ]; first | exact rfl | exact ⟨rfl, rfl⟩) ?_)
         | ((with_reducible refine AW.draw mixedP ?_ ?_); (focus first | exact .inl rfl | exact .inr (by decide)); with_reducible refine adraw_go (by simp [List.replicate_succ]; first | exact rfl | exact ⟨rfl, rfl, rfl⟩) ?_)
         | (with_reducible refine adraw_done (by kernel_rfl) ?_)
         | ((with_reducible refine aBlk_miss ?_ ?_); focus decide)
         | ((with_reducible refine cond_t ?_ ?_); focus (simp [ev]; done))
         | ((with_reducible refine cond_f ?_ ?_); focus (simp [ev]; done)))
        simp [aRet, ares, aresL, ares1, V.pub, V.pubs, ldV, Try.results8]
theorem lgrows_a (f : Font) (name glyph : ByteArray) (r p a b : Int) (hf : f.Fit) (ha1 : -32768 ≤ a) (ha2 : a ≤ 32767) (hb1 : -32768 ≤ b) (hb2 : b ≤ 32767) : AC Try.prog 8 [.agg f.vs, .agg [.c (.str name), .c (.str glyph), .c (.int .i64 r), .c (.int .i64 p)], .agg [.c (.int .i16 a), .c (.int .i16 b)]] (.c (.bool true)) := by
  by_cases h : a < b
  · exact lgrows_1 f name glyph r p a b hf ha1 ha2 hb1 hb2 h (by omega)
  · by_cases h2 : b < a
    · exact lgrows_2 f name glyph r p a b hf ha1 ha2 hb1 hb2 h2 h
    · exact lgrows_3 f name glyph r p a b hf ha1 ha2 hb1 hb2 h2 h
end Go.Proofs.Ythbcljjpmdfflaa
