/-
  Layer 6's laws: VariantPieces, the walk. (Printed by mkli.py.)
-/
import Derived.Test.YthbcljjpmdfflaaLh
namespace Go.Proofs.Ythbcljjpmdfflaa
open Go.RowKit
set_option linter.unusedSimpArgs false
set_option linter.unusedVariables false
set_option maxRecDepth 100000

theorem lpieces_0 (f : Font) (name glyph : ByteArray) (r p : Int) (hf : f.Fit) (hS : smallB f 0 p = false) : AC Try.prog 9 [.agg f.vs, .agg [.c (.str name), .c (.str glyph), .c (.int .i64 r), .c (.int .i64 p)]] (.c (.bool true)) := by
  have hsm := small_a f 0 p hf
  rw [hS] at hsm
  refine AC.intro Try.func9 rfl ?_
  simp only [Try.ntmps9, List.map_cons, List.map_nil, List.length_cons, List.length_nil, Nat.reduceAdd, Nat.reduceSub, List.replicate_succ, List.replicate_zero, List.cons_append, List.nil_append]
  repeat (first
   | (with_reducible first | refine AW.seq ?_ | refine AW.block ?_ | refine aThen_n ?_ | refine aBlk_n ?_ | refine AW.ret ?_ | refine aThen_r ?_ | refine aBlk_r ?_ | refine aops_done ?_ | refine AW.skip ?_ | refine AW.exit ?_ | refine aThen_e ?_ | refine aBlk_hit ?_ | refine AW.label ?_ | refine AW.scope ?_ | refine aNg_n ?_ | refine aNg_r ?_ | refine aNg_e ?_)
   | ((with_reducible refine AW.region ?_); with_reducible refine aops_run (by simp [List.replicate_succ]; first | exact rfl | exact ⟨rfl, rfl⟩) ?_)
   | ((with_reducible refine AW.draw mixedP ?_ ?_); (focus first | exact .inl rfl | exact .inr (by decide)); with_reducible refine adraw_go (by simp [List.replicate_succ]; first | exact rfl | exact ⟨rfl, rfl, rfl⟩) ?_)
   | (with_reducible refine adraw_done (by kernel_rfl) ?_)
   | ((with_reducible refine aBlk_miss ?_ ?_); focus decide)
   | ((with_reducible refine cond_t ?_ ?_); focus (simp [ev]; done))
   | ((with_reducible refine cond_f ?_ ?_); focus (simp [ev]; done)))
  (with_reducible first | refine aops_c (awake_a) Try.func21 (by kernel_rfl) (by kernel_rfl) ?_ ?_ ?_ | refine adraw_c (awake_a) Try.func21 (by kernel_rfl) (by kernel_rfl) ?_ ?_ ?_)
  focus (simp [gate]; done)
  focus (simp [pubCall]; done)
  first | (with_reducible refine aops_run (by simp [List.replicate_succ]; first | exact rfl | exact ⟨rfl, rfl⟩) ?_) | (with_reducible refine adraw_go (by simp [List.replicate_succ]; first | exact rfl | exact ⟨rfl, rfl, rfl⟩) ?_)
  repeat (first
   | (with_reducible first | refine AW.seq ?_ | refine AW.block ?_ | refine aThen_n ?_ | refine aBlk_n ?_ | refine AW.ret ?_ | refine aThen_r ?_ | refine aBlk_r ?_ | refine aops_done ?_ | refine AW.skip ?_ | refine AW.exit ?_ | refine aThen_e ?_ | refine aBlk_hit ?_ | refine AW.label ?_ | refine AW.scope ?_ | refine aNg_n ?_ | refine aNg_r ?_ | refine aNg_e ?_)
   | ((with_reducible refine AW.region ?_); with_reducible refine aops_run (by simp [List.replicate_succ]; first | exact rfl | exact ⟨rfl, rfl⟩) ?_)
   | ((with_reducible refine AW.draw mixedP ?_ ?_); (focus first | exact .inl rfl | exact .inr (by decide)); with_reducible refine adraw_go (by simp [List.replicate_succ]; first | exact rfl | exact ⟨rfl, rfl, rfl⟩) ?_)
   | (with_reducible refine adraw_done (by kernel_rfl) ?_)
   | ((with_reducible refine aBlk_miss ?_ ?_); focus decide)
   | ((with_reducible refine cond_t ?_ ?_); focus (simp [ev]; done))
   | ((with_reducible refine cond_f ?_ ?_); focus (simp [ev]; done)))
  (with_reducible first | refine aops_c (hsm) Try.func32 (by kernel_rfl) (by kernel_rfl) ?_ ?_ ?_ | refine adraw_c (hsm) Try.func32 (by kernel_rfl) (by kernel_rfl) ?_ ?_ ?_)
  focus (simp [gate, hS]; done)
  focus (simp [pubCall, hS]; done)
  first | (with_reducible refine aops_run (by simp [List.replicate_succ, hS]; first | exact rfl | exact ⟨rfl, rfl⟩) ?_) | (with_reducible refine adraw_go (by simp [List.replicate_succ, hS]; first | exact rfl | exact ⟨rfl, rfl, rfl⟩) ?_)
  repeat (first
   | (with_reducible first | refine AW.seq ?_ | refine AW.block ?_ | refine aThen_n ?_ | refine aBlk_n ?_ | refine AW.ret ?_ | refine aThen_r ?_ | refine aBlk_r ?_ | refine aops_done ?_ | refine AW.skip ?_ | refine AW.exit ?_ | refine aThen_e ?_ | refine aBlk_hit ?_ | refine AW.label ?_ | refine AW.scope ?_ | refine aNg_n ?_ | refine aNg_r ?_ | refine aNg_e ?_)
   | ((with_reducible refine AW.region ?_); with_reducible refine aops_run (by simp [List.replicate_succ]; first | exact rfl | exact ⟨rfl, rfl⟩) ?_)
   | ((with_reducible refine AW.draw mixedP ?_ ?_); (focus first | exact .inl rfl | exact .inr (by decide)); with_reducible refine adraw_go (by simp [List.replicate_succ]; first | exact rfl | exact ⟨rfl, rfl, rfl⟩) ?_)
   | (with_reducible refine adraw_done (by kernel_rfl) ?_)
   | ((with_reducible refine aBlk_miss ?_ ?_); focus decide)
   | ((with_reducible refine cond_t ?_ ?_); focus (simp [ev]; done))
   | ((with_reducible refine cond_f ?_ ?_); focus (simp [ev]; done)))
  simp [aRet, ares, aresL, ares1, V.pub, V.pubs, ldV, Try.results9]
theorem lpieces_1 (f : Font) (name glyph : ByteArray) (r p : Int) (hf : f.Fit) (hS : smallB f 0 p = true) (hr : r < 1) : AC Try.prog 9 [.agg f.vs, .agg [.c (.str name), .c (.str glyph), .c (.int .i64 r), .c (.int .i64 p)]] (.c (.bool true)) := by
  have hsm := small_a f 0 p hf
  rw [hS] at hsm
  refine AC.intro Try.func9 rfl ?_
  simp only [Try.ntmps9, List.map_cons, List.map_nil, List.length_cons, List.length_nil, Nat.reduceAdd, Nat.reduceSub, List.replicate_succ, List.replicate_zero, List.cons_append, List.nil_append]
  repeat (first
   | (with_reducible first | refine AW.seq ?_ | refine AW.block ?_ | refine aThen_n ?_ | refine aBlk_n ?_ | refine AW.ret ?_ | refine aThen_r ?_ | refine aBlk_r ?_ | refine aops_done ?_ | refine AW.skip ?_ | refine AW.exit ?_ | refine aThen_e ?_ | refine aBlk_hit ?_ | refine AW.label ?_ | refine AW.scope ?_ | refine aNg_n ?_ | refine aNg_r ?_ | refine aNg_e ?_)
   | ((with_reducible refine AW.region ?_); with_reducible refine aops_run (by simp [List.replicate_succ]; first | exact rfl | exact ⟨rfl, rfl⟩) ?_)
   | ((with_reducible refine AW.draw mixedP ?_ ?_); (focus first | exact .inl rfl | exact .inr (by decide)); with_reducible refine adraw_go (by simp [List.replicate_succ]; first | exact rfl | exact ⟨rfl, rfl, rfl⟩) ?_)
   | (with_reducible refine adraw_done (by kernel_rfl) ?_)
   | ((with_reducible refine aBlk_miss ?_ ?_); focus decide)
   | ((with_reducible refine cond_t ?_ ?_); focus (simp [ev]; done))
   | ((with_reducible refine cond_f ?_ ?_); focus (simp [ev]; done)))
  (with_reducible first | refine aops_c (awake_a) Try.func21 (by kernel_rfl) (by kernel_rfl) ?_ ?_ ?_ | refine adraw_c (awake_a) Try.func21 (by kernel_rfl) (by kernel_rfl) ?_ ?_ ?_)
  focus (simp [gate]; done)
  focus (simp [pubCall]; done)
  first | (with_reducible refine aops_run (by simp [List.replicate_succ]; first | exact rfl | exact ⟨rfl, rfl⟩) ?_) | (with_reducible refine adraw_go (by simp [List.replicate_succ]; first | exact rfl | exact ⟨rfl, rfl, rfl⟩) ?_)
  repeat (first
   | (with_reducible first | refine AW.seq ?_ | refine AW.block ?_ | refine aThen_n ?_ | refine aBlk_n ?_ | refine AW.ret ?_ | refine aThen_r ?_ | refine aBlk_r ?_ | refine aops_done ?_ | refine AW.skip ?_ | refine AW.exit ?_ | refine aThen_e ?_ | refine aBlk_hit ?_ | refine AW.label ?_ | refine AW.scope ?_ | refine aNg_n ?_ | refine aNg_r ?_ | refine aNg_e ?_)
   | ((with_reducible refine AW.region ?_); with_reducible refine aops_run (by simp [List.replicate_succ]; first | exact rfl | exact ⟨rfl, rfl⟩) ?_)
   | ((with_reducible refine AW.draw mixedP ?_ ?_); (focus first | exact .inl rfl | exact .inr (by decide)); with_reducible refine adraw_go (by simp [List.replicate_succ]; first | exact rfl | exact ⟨rfl, rfl, rfl⟩) ?_)
   | (with_reducible refine adraw_done (by kernel_rfl) ?_)
   | ((with_reducible refine aBlk_miss ?_ ?_); focus decide)
   | ((with_reducible refine cond_t ?_ ?_); focus (simp [ev]; done))
   | ((with_reducible refine cond_f ?_ ?_); focus (simp [ev]; done)))
  (with_reducible first | refine aops_c (hsm) Try.func32 (by kernel_rfl) (by kernel_rfl) ?_ ?_ ?_ | refine adraw_c (hsm) Try.func32 (by kernel_rfl) (by kernel_rfl) ?_ ?_ ?_)
  focus (simp [gate, hr]; done)
  focus (simp [pubCall, hr]; done)
  first | (with_reducible refine aops_run (by simp [List.replicate_succ, hr]; first | exact rfl | exact ⟨rfl, rfl⟩) ?_) | (with_reducible refine adraw_go (by simp [List.replicate_succ, hr]; first | exact rfl | exact ⟨rfl, rfl, rfl⟩) ?_)
  repeat (first
   | (with_reducible first | refine AW.seq ?_ | refine AW.block ?_ | refine aThen_n ?_ | refine aBlk_n ?_ | refine AW.ret ?_ | refine aThen_r ?_ | refine aBlk_r ?_ | refine aops_done ?_ | refine AW.skip ?_ | refine AW.exit ?_ | refine aThen_e ?_ | refine aBlk_hit ?_ | refine AW.label ?_ | refine AW.scope ?_ | refine aNg_n ?_ | refine aNg_r ?_ | refine aNg_e ?_)
   | ((with_reducible refine AW.region ?_); with_reducible refine aops_run (by simp [List.replicate_succ]; first | exact rfl | exact ⟨rfl, rfl⟩) ?_)
   | ((with_reducible refine AW.draw mixedP ?_ ?_); (focus first | exact .inl rfl | exact .inr (by decide)); with_reducible refine adraw_go (by simp [List.replicate_succ]; first | exact rfl | exact ⟨rfl, rfl, rfl⟩) ?_)
   | (with_reducible refine adraw_done (by kernel_rfl) ?_)
   | ((with_reducible refine aBlk_miss ?_ ?_); focus decide)
   | ((with_reducible refine cond_t ?_ ?_); focus (simp [ev]; done))
   | ((with_reducible refine cond_f ?_ ?_); focus (simp [ev]; done)))
  simp [aRet, ares, aresL, ares1, V.pub, V.pubs, ldV, Try.results9]
theorem lpieces_2 (f : Font) (name glyph : ByteArray) (r p : Int) (hf : f.Fit) (hS : smallB f 0 p = true) (hr : ¬ r < 1) (hr2 : 60 < r) : AC Try.prog 9 [.agg f.vs, .agg [.c (.str name), .c (.str glyph), .c (.int .i64 r), .c (.int .i64 p)]] (.c (.bool true)) := by
  have hsm := small_a f 0 p hf
  rw [hS] at hsm
  refine AC.intro Try.func9 rfl ?_
  simp only [Try.ntmps9, List.map_cons, List.map_nil, List.length_cons, List.length_nil, Nat.reduceAdd, Nat.reduceSub, List.replicate_succ, List.replicate_zero, List.cons_append, List.nil_append]
  repeat (first
   | (with_reducible first | refine AW.seq ?_ | refine AW.block ?_ | refine aThen_n ?_ | refine aBlk_n ?_ | refine AW.ret ?_ | refine aThen_r ?_ | refine aBlk_r ?_ | refine aops_done ?_ | refine AW.skip ?_ | refine AW.exit ?_ | refine aThen_e ?_ | refine aBlk_hit ?_ | refine AW.label ?_ | refine AW.scope ?_ | refine aNg_n ?_ | refine aNg_r ?_ | refine aNg_e ?_)
   | ((with_reducible refine AW.region ?_); with_reducible refine aops_run (by simp [List.replicate_succ]; first | exact rfl | exact ⟨rfl, rfl⟩) ?_)
   | ((with_reducible refine AW.draw mixedP ?_ ?_); (focus first | exact .inl rfl | exact .inr (by decide)); with_reducible refine adraw_go (by simp [List.replicate_succ]; first | exact rfl | exact ⟨rfl, rfl, rfl⟩) ?_)
   | (with_reducible refine adraw_done (by kernel_rfl) ?_)
   | ((with_reducible refine aBlk_miss ?_ ?_); focus decide)
   | ((with_reducible refine cond_t ?_ ?_); focus (simp [ev]; done))
   | ((with_reducible refine cond_f ?_ ?_); focus (simp [ev]; done)))
  (with_reducible first | refine aops_c (awake_a) Try.func21 (by kernel_rfl) (by kernel_rfl) ?_ ?_ ?_ | refine adraw_c (awake_a) Try.func21 (by kernel_rfl) (by kernel_rfl) ?_ ?_ ?_)
  focus (simp [gate]; done)
  focus (simp [pubCall]; done)
  first | (with_reducible refine aops_run (by simp [List.replicate_succ]; first | exact rfl | exact ⟨rfl, rfl⟩) ?_) | (with_reducible refine adraw_go (by simp [List.replicate_succ]; first | exact rfl | exact ⟨rfl, rfl, rfl⟩) ?_)
  repeat (first
   | (with_reducible first | refine AW.seq ?_ | refine AW.block ?_ | refine aThen_n ?_ | refine aBlk_n ?_ | refine AW.ret ?_ | refine aThen_r ?_ | refine aBlk_r ?_ | refine aops_done ?_ | refine AW.skip ?_ | refine AW.exit ?_ | refine aThen_e ?_ | refine aBlk_hit ?_ | refine AW.label ?_ | refine AW.scope ?_ | refine aNg_n ?_ | refine aNg_r ?_ | refine aNg_e ?_)
   | ((with_reducible refine AW.region ?_); with_reducible refine aops_run (by simp [List.replicate_succ]; first | exact rfl | exact ⟨rfl, rfl⟩) ?_)
   | ((with_reducible refine AW.draw mixedP ?_ ?_); (focus first | exact .inl rfl | exact .inr (by decide)); with_reducible refine adraw_go (by simp [List.replicate_succ]; first | exact rfl | exact ⟨rfl, rfl, rfl⟩) ?_)
   | (with_reducible refine adraw_done (by kernel_rfl) ?_)
   | ((with_reducible refine aBlk_miss ?_ ?_); focus decide)
   | ((with_reducible refine cond_t ?_ ?_); focus (simp [ev]; done))
   | ((with_reducible refine cond_f ?_ ?_); focus (simp [ev]; done)))
  (with_reducible first | refine aops_c (hsm) Try.func32 (by kernel_rfl) (by kernel_rfl) ?_ ?_ ?_ | refine adraw_c (hsm) Try.func32 (by kernel_rfl) (by kernel_rfl) ?_ ?_ ?_)
  focus (simp [gate, hr, hr2]; done)
  focus (simp [pubCall, hr, hr2]; done)
  first | (with_reducible refine aops_run (by simp [List.replicate_succ, hr, hr2]; first | exact rfl | exact ⟨rfl, rfl⟩) ?_) | (with_reducible refine adraw_go (by simp [List.replicate_succ, hr, hr2]; first | exact rfl | exact ⟨rfl, rfl, rfl⟩) ?_)
  repeat (first
   | (with_reducible first | refine AW.seq ?_ | refine AW.block ?_ | refine aThen_n ?_ | refine aBlk_n ?_ | refine AW.ret ?_ | refine aThen_r ?_ | refine aBlk_r ?_ | refine aops_done ?_ | refine AW.skip ?_ | refine AW.exit ?_ | refine aThen_e ?_ | refine aBlk_hit ?_ | refine AW.label ?_ | refine AW.scope ?_ | refine aNg_n ?_ | refine aNg_r ?_ | refine aNg_e ?_)
   | ((with_reducible refine AW.region ?_); with_reducible refine aops_run (by simp [List.replicate_succ]; first | exact rfl | exact ⟨rfl, rfl⟩) ?_)
   | ((with_reducible refine AW.draw mixedP ?_ ?_); (focus first | exact .inl rfl | exact .inr (by decide)); with_reducible refine adraw_go (by simp [List.replicate_succ]; first | exact rfl | exact ⟨rfl, rfl, rfl⟩) ?_)
   | (with_reducible refine adraw_done (by kernel_rfl) ?_)
   | ((with_reducible refine aBlk_miss ?_ ?_); focus decide)
   | ((with_reducible refine cond_t ?_ ?_); focus (simp [ev]; done))
   | ((with_reducible refine cond_f ?_ ?_); focus (simp [ev]; done)))
  simp [aRet, ares, aresL, ares1, V.pub, V.pubs, ldV, Try.results9]
theorem lpieces_n (f : Font) (name glyph : ByteArray) (r p : Int) (hf : f.Fit) (hS : smallB f 0 p = true) (hr : ¬ r < 1) (hr2 : ¬ 60 < r) (hst : f.stretch name = none) : AC Try.prog 9 [.agg f.vs, .agg [.c (.str name), .c (.str glyph), .c (.int .i64 r), .c (.int .i64 p)]] (.c (.bool true)) := by
  have hsm := small_a f 0 p hf
  rw [hS] at hsm
  obtain ⟨hw, hv, hp1, hp2, hn, hc⟩ := small_true hS
  have h1 := vBox_a vasm_a f name ⟨⟨#[]⟩, r⟩ p hf
  have hrs := rstretch_a f name hf.sl
  have hr0 : ¬ r = 0 := by omega
  have hi : isR f name ⟨⟨#[]⟩, r⟩ = false := by unfold isR; rw [hst]; simp [hr0]
  have hR : boxR f name ⟨⟨#[]⟩, r⟩ p = (Box.zero, 8) := by unfold boxR; rw [if_neg (by simp [hc]), if_pos hi]
  rw [hR] at h1
  simp only [choiceV, boxEV, errV, boxV, Box.zero, Box.row, Box.rows, List.map_cons, List.map_nil] at h1
  refine AC.intro Try.func9 rfl ?_
  simp only [Try.ntmps9, List.map_cons, List.map_nil, List.length_cons, List.length_nil, Nat.reduceAdd, Nat.reduceSub, List.replicate_succ, List.replicate_zero, List.cons_append, List.nil_append]
  repeat (first
   | (with_reducible first | refine AW.seq ?_ | refine AW.block ?_ | refine aThen_n ?_ | refine aBlk_n ?_ | refine AW.ret ?_ | refine aThen_r ?_ | refine aBlk_r ?_ | refine aops_done ?_ | refine AW.skip ?_ | refine AW.exit ?_ | refine aThen_e ?_ | refine aBlk_hit ?_ | refine AW.label ?_ | refine AW.scope ?_ | refine aNg_n ?_ | refine aNg_r ?_ | refine aNg_e ?_)
   | ((with_reducible refine AW.region ?_); with_reducible refine aops_run (by simp [List.replicate_succ]; first | exact rfl | exact ⟨rfl, rfl⟩) ?_)
   | ((with_reducible refine AW.draw mixedP ?_ ?_); (focus first | exact .inl rfl | exact .inr (by decide)); with_reducible refine adraw_go (by simp [List.replicate_succ]; first | exact rfl | exact ⟨rfl, rfl, rfl⟩) ?_)
   | (with_reducible refine adraw_done (by kernel_rfl) ?_)
   | ((with_reducible refine aBlk_miss ?_ ?_); focus decide)
   | ((with_reducible refine cond_t ?_ ?_); focus (simp [ev]; done))
   | ((with_reducible refine cond_f ?_ ?_); focus (simp [ev]; done)))
  (with_reducible first | refine aops_c (awake_a) Try.func21 (by kernel_rfl) (by kernel_rfl) ?_ ?_ ?_ | refine adraw_c (awake_a) Try.func21 (by kernel_rfl) (by kernel_rfl) ?_ ?_ ?_)
  focus (simp [gate]; done)
  focus (simp [pubCall]; done)
  first | (with_reducible refine aops_run (by simp [List.replicate_succ]; first | exact rfl | exact ⟨rfl, rfl⟩) ?_) | (with_reducible refine adraw_go (by simp [List.replicate_succ]; first | exact rfl | exact ⟨rfl, rfl, rfl⟩) ?_)
  repeat (first
   | (with_reducible first | refine AW.seq ?_ | refine AW.block ?_ | refine aThen_n ?_ | refine aBlk_n ?_ | refine AW.ret ?_ | refine aThen_r ?_ | refine aBlk_r ?_ | refine aops_done ?_ | refine AW.skip ?_ | refine AW.exit ?_ | refine aThen_e ?_ | refine aBlk_hit ?_ | refine AW.label ?_ | refine AW.scope ?_ | refine aNg_n ?_ | refine aNg_r ?_ | refine aNg_e ?_)
   | ((with_reducible refine AW.region ?_); with_reducible refine aops_run (by simp [List.replicate_succ]; first | exact rfl | exact ⟨rfl, rfl⟩) ?_)
   | ((with_reducible refine AW.draw mixedP ?_ ?_); (focus first | exact .inl rfl | exact .inr (by decide)); with_reducible refine adraw_go (by simp [List.replicate_succ]; first | exact rfl | exact ⟨rfl, rfl, rfl⟩) ?_)
   | (with_reducible refine adraw_done (by kernel_rfl) ?_)
   | ((with_reducible refine aBlk_miss ?_ ?_); focus decide)
   | ((with_reducible refine cond_t ?_ ?_); focus (simp [ev]; done))
   | ((with_reducible refine cond_f ?_ ?_); focus (simp [ev]; done)))
  (with_reducible first | refine aops_c (hsm) Try.func32 (by kernel_rfl) (by kernel_rfl) ?_ ?_ ?_ | refine adraw_c (hsm) Try.func32 (by kernel_rfl) (by kernel_rfl) ?_ ?_ ?_)
  focus (simp [gate, hr, hr2]; done)
  focus (simp [pubCall, hr, hr2]; done)
  first | (with_reducible refine aops_run (by simp [List.replicate_succ, hr, hr2]; first | exact rfl | exact ⟨rfl, rfl⟩) ?_) | (with_reducible refine adraw_go (by simp [List.replicate_succ, hr, hr2]; first | exact rfl | exact ⟨rfl, rfl, rfl⟩) ?_)
  repeat (first
   | (with_reducible first | refine AW.seq ?_ | refine AW.block ?_ | refine aThen_n ?_ | refine aBlk_n ?_ | refine AW.ret ?_ | refine aThen_r ?_ | refine aBlk_r ?_ | refine aops_done ?_ | refine AW.skip ?_ | refine AW.exit ?_ | refine aThen_e ?_ | refine aBlk_hit ?_ | refine AW.label ?_ | refine AW.scope ?_ | refine aNg_n ?_ | refine aNg_r ?_ | refine aNg_e ?_)
   | ((with_reducible refine AW.region ?_); with_reducible refine aops_run (by simp [List.replicate_succ]; first | exact rfl | exact ⟨rfl, rfl⟩) ?_)
   | ((with_reducible refine AW.draw mixedP ?_ ?_); (focus first | exact .inl rfl | exact .inr (by decide)); with_reducible refine adraw_go (by simp [List.replicate_succ]; first | exact rfl | exact ⟨rfl, rfl, rfl⟩) ?_)
   | (with_reducible refine adraw_done (by kernel_rfl) ?_)
   | ((with_reducible refine aBlk_miss ?_ ?_); focus decide)
   | ((with_reducible refine cond_t ?_ ?_); focus (simp [ev]; done))
   | ((with_reducible refine cond_f ?_ ?_); focus (simp [ev]; done)))
  (with_reducible first | refine aops_c (hrs) Try.func33 (by kernel_rfl) (by kernel_rfl) ?_ ?_ ?_ | refine adraw_c (hrs) Try.func33 (by kernel_rfl) (by kernel_rfl) ?_ ?_ ?_)
  focus (simp [gate, foundS, stretchV, Stretch.row, hst, Stretch.zero]; done)
  focus (simp [pubCall, foundS, stretchV, Stretch.row, hst, Stretch.zero]; done)
  first | (with_reducible refine aops_run (by simp [List.replicate_succ, foundS, stretchV, Stretch.row, hst, Stretch.zero]; first | exact rfl | exact ⟨rfl, rfl⟩) ?_) | (with_reducible refine adraw_go (by simp [List.replicate_succ, foundS, stretchV, Stretch.row, hst, Stretch.zero]; first | exact rfl | exact ⟨rfl, rfl, rfl⟩) ?_)
  repeat (first
   | (with_reducible first | refine AW.seq ?_ | refine AW.block ?_ | refine aThen_n ?_ | refine aBlk_n ?_ | refine AW.ret ?_ | refine aThen_r ?_ | refine aBlk_r ?_ | refine aops_done ?_ | refine AW.skip ?_ | refine AW.exit ?_ | refine aThen_e ?_ | refine aBlk_hit ?_ | refine AW.label ?_ | refine AW.scope ?_ | refine aNg_n ?_ | refine aNg_r ?_ | refine aNg_e ?_)
   | ((with_reducible refine AW.region ?_); with_reducible refine aops_run (by simp [List.replicate_succ]; first | exact rfl | exact ⟨rfl, rfl⟩) ?_)
   | ((with_reducible refine AW.draw mixedP ?_ ?_); (focus first | exact .inl rfl | exact .inr (by decide)); with_reducible refine adraw_go (by simp [List.replicate_succ]; first | exact rfl | exact ⟨rfl, rfl, rfl⟩) ?_)
   | (with_reducible refine adraw_done (by kernel_rfl) ?_)
   | ((with_reducible refine aBlk_miss ?_ ?_); focus decide)
   | ((with_reducible refine cond_t ?_ ?_); focus (simp [ev]; done))
   | ((with_reducible refine cond_f ?_ ?_); focus (simp [ev]; done)))
  (with_reducible first | refine aops_c (h1) Try.func25 (by kernel_rfl) (by kernel_rfl) ?_ ?_ ?_ | refine adraw_c (h1) Try.func25 (by kernel_rfl) (by kernel_rfl) ?_ ?_ ?_)
  focus (simp [gate]; done)
  focus (simp [pubCall]; done)
  first | (with_reducible refine aops_run (by simp [List.replicate_succ]; first | exact rfl | exact ⟨rfl, rfl⟩) ?_) | (with_reducible refine adraw_go (by simp [List.replicate_succ]; first | exact rfl | exact ⟨rfl, rfl, rfl⟩) ?_)
  repeat (first
   | (with_reducible first | refine AW.seq ?_ | refine AW.block ?_ | refine aThen_n ?_ | refine aBlk_n ?_ | refine AW.ret ?_ | refine aThen_r ?_ | refine aBlk_r ?_ | refine aops_done ?_ | refine AW.skip ?_ | refine AW.exit ?_ | refine aThen_e ?_ | refine aBlk_hit ?_ | refine AW.label ?_ | refine AW.scope ?_ | refine aNg_n ?_ | refine aNg_r ?_ | refine aNg_e ?_)
   | ((with_reducible refine AW.region ?_); with_reducible refine aops_run (by simp [List.replicate_succ]; first | exact rfl | exact ⟨rfl, rfl⟩) ?_)
   | ((with_reducible refine AW.draw mixedP ?_ ?_); (focus first | exact .inl rfl | exact .inr (by decide)); with_reducible refine adraw_go (by simp [List.replicate_succ]; first | exact rfl | exact ⟨rfl, rfl, rfl⟩) ?_)
   | (with_reducible refine adraw_done (by kernel_rfl) ?_)
   | ((with_reducible refine aBlk_miss ?_ ?_); focus decide)
   | ((with_reducible refine cond_t ?_ ?_); focus (simp [ev]; done))
   | ((with_reducible refine cond_f ?_ ?_); focus (simp [ev]; done)))
  simp [aRet, ares, aresL, ares1, V.pub, V.pubs, ldV, Try.results9]
theorem lpieces_e (f : Font) (name glyph : ByteArray) (r p : Int) (hf : f.Fit) (hS : smallB f 0 p = true) (hr : ¬ r < 1) (hr2 : ¬ 60 < r) (s : Stretch) (hst : f.stretch name = some s) (hp : s.parts = []) : AC Try.prog 9 [.agg f.vs, .agg [.c (.str name), .c (.str glyph), .c (.int .i64 r), .c (.int .i64 p)]] (.c (.bool true)) := by
  have hsm := small_a f 0 p hf
  rw [hS] at hsm
  obtain ⟨hw, hv, hp1, hp2, hn, hc⟩ := small_true hS
  have h1 := vBox_a vasm_a f name ⟨⟨#[]⟩, r⟩ p hf
  have hrs := rstretch_a f name hf.sl
  have hi := no_asm hst hp (r := r) (by omega)
  have hR : boxR f name ⟨⟨#[]⟩, r⟩ p = (Box.zero, 8) := by unfold boxR; rw [if_neg (by simp [hc]), if_pos hi]
  rw [hR] at h1
  simp only [choiceV, boxEV, errV, boxV, Box.zero, Box.row, Box.rows, List.map_cons, List.map_nil] at h1
  refine AC.intro Try.func9 rfl ?_
  simp only [Try.ntmps9, List.map_cons, List.map_nil, List.length_cons, List.length_nil, Nat.reduceAdd, Nat.reduceSub, List.replicate_succ, List.replicate_zero, List.cons_append, List.nil_append]
  repeat (first
   | (with_reducible first | refine AW.seq ?_ | refine AW.block ?_ | refine aThen_n ?_ | refine aBlk_n ?_ | refine AW.ret ?_ | refine aThen_r ?_ | refine aBlk_r ?_ | refine aops_done ?_ | refine AW.skip ?_ | refine AW.exit ?_ | refine aThen_e ?_ | refine aBlk_hit ?_ | refine AW.label ?_ | refine AW.scope ?_ | refine aNg_n ?_ | refine aNg_r ?_ | refine aNg_e ?_)
   | ((with_reducible refine AW.region ?_); with_reducible refine aops_run (by simp [List.replicate_succ]; first | exact rfl | exact ⟨rfl, rfl⟩) ?_)
   | ((with_reducible refine AW.draw mixedP ?_ ?_); (focus first | exact .inl rfl | exact .inr (by decide)); with_reducible refine adraw_go (by simp [List.replicate_succ]; first | exact rfl | exact ⟨rfl, rfl, rfl⟩) ?_)
   | (with_reducible refine adraw_done (by kernel_rfl) ?_)
   | ((with_reducible refine aBlk_miss ?_ ?_); focus decide)
   | ((with_reducible refine cond_t ?_ ?_); focus (simp [ev]; done))
   | ((with_reducible refine cond_f ?_ ?_); focus (simp [ev]; done)))
  (with_reducible first | refine aops_c (awake_a) Try.func21 (by kernel_rfl) (by kernel_rfl) ?_ ?_ ?_ | refine adraw_c (awake_a) Try.func21 (by kernel_rfl) (by kernel_rfl) ?_ ?_ ?_)
  focus (simp [gate]; done)
  focus (simp [pubCall]; done)
  first | (with_reducible refine aops_run (by simp [List.replicate_succ]; first | exact rfl | exact ⟨rfl, rfl⟩) ?_) | (with_reducible refine adraw_go (by simp [List.replicate_succ]; first | exact rfl | exact ⟨rfl, rfl, rfl⟩) ?_)
  repeat (first
   | (with_reducible first | refine AW.seq ?_ | refine AW.block ?_ | refine aThen_n ?_ | refine aBlk_n ?_ | refine AW.ret ?_ | refine aThen_r ?_ | refine aBlk_r ?_ | refine aops_done ?_ | refine AW.skip ?_ | refine AW.exit ?_ | refine aThen_e ?_ | refine aBlk_hit ?_ | refine AW.label ?_ | refine AW.scope ?_ | refine aNg_n ?_ | refine aNg_r ?_ | refine aNg_e ?_)
   | ((with_reducible refine AW.region ?_); with_reducible refine aops_run (by simp [List.replicate_succ]; first | exact rfl | exact ⟨rfl, rfl⟩) ?_)
   | ((with_reducible refine AW.draw mixedP ?_ ?_); (focus first | exact .inl rfl | exact .inr (by decide)); with_reducible refine adraw_go (by simp [List.replicate_succ]; first | exact rfl | exact ⟨rfl, rfl, rfl⟩) ?_)
   | (with_reducible refine adraw_done (by kernel_rfl) ?_)
   | ((with_reducible refine aBlk_miss ?_ ?_); focus decide)
   | ((with_reducible refine cond_t ?_ ?_); focus (simp [ev]; done))
   | ((with_reducible refine cond_f ?_ ?_); focus (simp [ev]; done)))
  (with_reducible first | refine aops_c (hsm) Try.func32 (by kernel_rfl) (by kernel_rfl) ?_ ?_ ?_ | refine adraw_c (hsm) Try.func32 (by kernel_rfl) (by kernel_rfl) ?_ ?_ ?_)
  focus (simp [gate, hr, hr2]; done)
  focus (simp [pubCall, hr, hr2]; done)
  first | (with_reducible refine aops_run (by simp [List.replicate_succ, hr, hr2]; first | exact rfl | exact ⟨rfl, rfl⟩) ?_) | (with_reducible refine adraw_go (by simp [List.replicate_succ, hr, hr2]; first | exact rfl | exact ⟨rfl, rfl, rfl⟩) ?_)
  repeat (first
   | (with_reducible first | refine AW.seq ?_ | refine AW.block ?_ | refine aThen_n ?_ | refine aBlk_n ?_ | refine AW.ret ?_ | refine aThen_r ?_ | refine aBlk_r ?_ | refine aops_done ?_ | refine AW.skip ?_ | refine AW.exit ?_ | refine aThen_e ?_ | refine aBlk_hit ?_ | refine AW.label ?_ | refine AW.scope ?_ | refine aNg_n ?_ | refine aNg_r ?_ | refine aNg_e ?_)
   | ((with_reducible refine AW.region ?_); with_reducible refine aops_run (by simp [List.replicate_succ]; first | exact rfl | exact ⟨rfl, rfl⟩) ?_)
   | ((with_reducible refine AW.draw mixedP ?_ ?_); (focus first | exact .inl rfl | exact .inr (by decide)); with_reducible refine adraw_go (by simp [List.replicate_succ]; first | exact rfl | exact ⟨rfl, rfl, rfl⟩) ?_)
   | (with_reducible refine adraw_done (by kernel_rfl) ?_)
   | ((with_reducible refine aBlk_miss ?_ ?_); focus decide)
   | ((with_reducible refine cond_t ?_ ?_); focus (simp [ev]; done))
   | ((with_reducible refine cond_f ?_ ?_); focus (simp [ev]; done)))
  (with_reducible first | refine aops_c (hrs) Try.func33 (by kernel_rfl) (by kernel_rfl) ?_ ?_ ?_ | refine adraw_c (hrs) Try.func33 (by kernel_rfl) (by kernel_rfl) ?_ ?_ ?_)
  focus (simp [gate, foundS, stretchV, Stretch.row, hst]; done)
  focus (simp [pubCall, foundS, stretchV, Stretch.row, hst]; done)
  first | (with_reducible refine aops_run (by simp [List.replicate_succ, foundS, stretchV, Stretch.row, hst]; first | exact rfl | exact ⟨rfl, rfl⟩) ?_) | (with_reducible refine adraw_go (by simp [List.replicate_succ, foundS, stretchV, Stretch.row, hst]; first | exact rfl | exact ⟨rfl, rfl, rfl⟩) ?_)
  repeat (first
   | (with_reducible first | refine AW.seq ?_ | refine AW.block ?_ | refine aThen_n ?_ | refine aBlk_n ?_ | refine AW.ret ?_ | refine aThen_r ?_ | refine aBlk_r ?_ | refine aops_done ?_ | refine AW.skip ?_ | refine AW.exit ?_ | refine aThen_e ?_ | refine aBlk_hit ?_ | refine AW.label ?_ | refine AW.scope ?_ | refine aNg_n ?_ | refine aNg_r ?_ | refine aNg_e ?_)
   | ((with_reducible refine AW.region ?_); with_reducible refine aops_run (by simp [List.replicate_succ]; first | exact rfl | exact ⟨rfl, rfl⟩) ?_)
   | ((with_reducible refine AW.draw mixedP ?_ ?_); (focus first | exact .inl rfl | exact .inr (by decide)); with_reducible refine adraw_go (by simp [List.replicate_succ]; first | exact rfl | exact ⟨rfl, rfl, rfl⟩) ?_)
   | (with_reducible refine adraw_done (by kernel_rfl) ?_)
   | ((with_reducible refine aBlk_miss ?_ ?_); focus decide)
   | ((with_reducible refine cond_t ?_ ?_); focus (simp [ev]; done))
   | ((with_reducible refine cond_f ?_ ?_); focus (simp [ev]; done)))
  (with_reducible first | refine aops_c (h1) Try.func25 (by kernel_rfl) (by kernel_rfl) ?_ ?_ ?_ | refine adraw_c (h1) Try.func25 (by kernel_rfl) (by kernel_rfl) ?_ ?_ ?_)
  focus (simp [gate]; done)
  focus (simp [pubCall]; done)
  first | (with_reducible refine aops_run (by simp [List.replicate_succ]; first | exact rfl | exact ⟨rfl, rfl⟩) ?_) | (with_reducible refine adraw_go (by simp [List.replicate_succ]; first | exact rfl | exact ⟨rfl, rfl, rfl⟩) ?_)
  repeat (first
   | (with_reducible first | refine AW.seq ?_ | refine AW.block ?_ | refine aThen_n ?_ | refine aBlk_n ?_ | refine AW.ret ?_ | refine aThen_r ?_ | refine aBlk_r ?_ | refine aops_done ?_ | refine AW.skip ?_ | refine AW.exit ?_ | refine aThen_e ?_ | refine aBlk_hit ?_ | refine AW.label ?_ | refine AW.scope ?_ | refine aNg_n ?_ | refine aNg_r ?_ | refine aNg_e ?_)
   | ((with_reducible refine AW.region ?_); with_reducible refine aops_run (by simp [List.replicate_succ, hp, partsC]; first | exact rfl | exact ⟨rfl, rfl⟩) ?_)
   | ((with_reducible refine AW.draw mixedP ?_ ?_); (focus first | exact .inl rfl | exact .inr (by decide)); with_reducible refine adraw_go (by simp [List.replicate_succ, hp, partsC]; first | exact rfl | exact ⟨rfl, rfl, rfl⟩) ?_)
   | (with_reducible refine adraw_done (by kernel_rfl) ?_)
   | ((with_reducible refine aBlk_miss ?_ ?_); focus decide)
   | ((with_reducible refine cond_t ?_ ?_); focus (simp [ev, hp, partsC]; done))
   | ((with_reducible refine cond_f ?_ ?_); focus (simp [ev, hp, partsC]; done)))
  simp [aRet, ares, aresL, ares1, V.pub, V.pubs, ldV, Try.results9]
set_option maxHeartbeats 3200000 in
theorem lpieces_m (f : Font) (name glyph : ByteArray) (r p : Int) (hf : f.Fit) (hS : smallB f 0 p = true) (hr : ¬ r < 1) (hr2 : ¬ 60 < r) (s : Stretch) (hst : f.stretch name = some s) (hp : ¬ s.parts = []) : AC Try.prog 9 [.agg f.vs, .agg [.c (.str name), .c (.str glyph), .c (.int .i64 r), .c (.int .i64 p)]] (.c (.bool true)) := by
  have hsm := small_a f 0 p hf
  rw [hS] at hsm
  obtain ⟨hw, hv, hp1, hp2, hn, hc⟩ := small_true hS
  have h1 := vBox_a vasm_a f name ⟨⟨#[]⟩, r⟩ p hf
  have hrs := rstretch_a f name hf.sl
  have hs := (stretchO_mem hst).1
  have hi := is_asm hst hp (r := r) (by omega) (by omega)
  have hr0 : ¬ r = 0 := by omega
  obtain ⟨_, _, g3, g4, g5, g6⟩ := good_of hv hs
  have hpl := pieces_len (r := r) (by omega) (by omega) s.parts
  obtain ⟨tb1, tb2⟩ := tallI_bound hv hs (r := r) (by omega) (by omega)
  have hTb := scale_bd (n := tallI f s r) (p := p) tb1 tb2 (by omega) hp2
  have hkf := fun kids (hk : asmKids f s.overlap p 0 (piecesL r s.parts) = kids) => kid_facts hv hs (r := r) (p := p) (by omega) (by omega) hp1 hp2 hk
  have hR : boxR f name ⟨⟨#[]⟩, r⟩ p = (asmBox f s r p, 0) := by unfold boxR; rw [if_neg (by simp [hc]), if_neg (by simp [hi]), if_neg hr0, hst]; rfl
  have hkl := kids_len f s.overlap p (piecesL r s.parts) 0
  rw [hR] at h1
  obtain ⟨kids, hkids⟩ : ∃ l, asmKids f s.overlap p 0 (piecesL r s.parts) = l := ⟨_, rfl⟩
  have hkf := hkf kids hkids
  obtain ⟨T, hT⟩ : ∃ T, scale (tallI f s r) p = T := ⟨_, rfl⟩
  obtain ⟨mw, hmw⟩ : ∃ m, maxW 0 kids = m := ⟨_, rfl⟩
  simp only [choiceV, boxEV, errV, boxV, asmBox, Box.row, List.map_cons, List.map_nil] at h1
  rw [hkids, hT, hmw] at h1
  rw [hkids] at hkl
  rw [hT] at hTb
  simp only [hT, hmw] at hkf
  have hzero : scale 0 p = 0 := by rw [← rnd_scale (by omega) (by omega) (by omega) (by omega)]; simp [rnd]
  refine AC.intro Try.func9 rfl ?_
  simp only [Try.ntmps9, List.map_cons, List.map_nil, List.length_cons, List.length_nil, Nat.reduceAdd, Nat.reduceSub, List.replicate_succ, List.replicate_zero, List.cons_append, List.nil_append]
  repeat (first
   | (with_reducible first | refine AW.seq ?_ | refine AW.block ?_ | refine aThen_n ?_ | refine aBlk_n ?_ | refine AW.ret ?_ | refine aThen_r ?_ | refine aBlk_r ?_ | refine aops_done ?_ | refine AW.skip ?_ | refine AW.exit ?_ | refine aThen_e ?_ | refine aBlk_hit ?_ | refine AW.label ?_ | refine AW.scope ?_ | refine aNg_n ?_ | refine aNg_r ?_ | refine aNg_e ?_)
   | ((with_reducible refine AW.region ?_); with_reducible refine aops_run (by simp [List.replicate_succ]; first | exact rfl | exact ⟨rfl, rfl⟩) ?_)
   | ((with_reducible refine AW.draw mixedP ?_ ?_); (focus first | exact .inl rfl | exact .inr (by decide)); with_reducible refine adraw_go (by simp [List.replicate_succ]; first | exact rfl | exact ⟨rfl, rfl, rfl⟩) ?_)
   | (with_reducible refine adraw_done (by kernel_rfl) ?_)
   | ((with_reducible refine aBlk_miss ?_ ?_); focus decide)
   | ((with_reducible refine cond_t ?_ ?_); focus (simp [ev]; done))
   | ((with_reducible refine cond_f ?_ ?_); focus (simp [ev]; done)))
  (with_reducible first | refine aops_c (awake_a) Try.func21 (by kernel_rfl) (by kernel_rfl) ?_ ?_ ?_ | refine adraw_c (awake_a) Try.func21 (by kernel_rfl) (by kernel_rfl) ?_ ?_ ?_)
  focus (simp [gate]; done)
  focus (simp [pubCall]; done)
  first | (with_reducible refine aops_run (by simp [List.replicate_succ]; first | exact rfl | exact ⟨rfl, rfl⟩) ?_) | (with_reducible refine adraw_go (by simp [List.replicate_succ]; first | exact rfl | exact ⟨rfl, rfl, rfl⟩) ?_)
  repeat (first
   | (with_reducible first | refine AW.seq ?_ | refine AW.block ?_ | refine aThen_n ?_ | refine aBlk_n ?_ | refine AW.ret ?_ | refine aThen_r ?_ | refine aBlk_r ?_ | refine aops_done ?_ | refine AW.skip ?_ | refine AW.exit ?_ | refine aThen_e ?_ | refine aBlk_hit ?_ | refine AW.label ?_ | refine AW.scope ?_ | refine aNg_n ?_ | refine aNg_r ?_ | refine aNg_e ?_)
   | ((with_reducible refine AW.region ?_); with_reducible refine aops_run (by simp [List.replicate_succ]; first | exact rfl | exact ⟨rfl, rfl⟩) ?_)
   | ((with_reducible refine AW.draw mixedP ?_ ?_); (focus first | exact .inl rfl | exact .inr (by decide)); with_reducible refine adraw_go (by simp [List.replicate_succ]; first | exact rfl | exact ⟨rfl, rfl, rfl⟩) ?_)
   | (with_reducible refine adraw_done (by kernel_rfl) ?_)
   | ((with_reducible refine aBlk_miss ?_ ?_); focus decide)
   | ((with_reducible refine cond_t ?_ ?_); focus (simp [ev]; done))
   | ((with_reducible refine cond_f ?_ ?_); focus (simp [ev]; done)))
  (with_reducible first | refine aops_c (hsm) Try.func32 (by kernel_rfl) (by kernel_rfl) ?_ ?_ ?_ | refine adraw_c (hsm) Try.func32 (by kernel_rfl) (by kernel_rfl) ?_ ?_ ?_)
  focus (simp [gate, hr, hr2]; done)
  focus (simp [pubCall, hr, hr2]; done)
  first | (with_reducible refine aops_run (by simp [List.replicate_succ, hr, hr2]; first | exact rfl | exact ⟨rfl, rfl⟩) ?_) | (with_reducible refine adraw_go (by simp [List.replicate_succ, hr, hr2]; first | exact rfl | exact ⟨rfl, rfl, rfl⟩) ?_)
  repeat (first
   | (with_reducible first | refine AW.seq ?_ | refine AW.block ?_ | refine aThen_n ?_ | refine aBlk_n ?_ | refine AW.ret ?_ | refine aThen_r ?_ | refine aBlk_r ?_ | refine aops_done ?_ | refine AW.skip ?_ | refine AW.exit ?_ | refine aThen_e ?_ | refine aBlk_hit ?_ | refine AW.label ?_ | refine AW.scope ?_ | refine aNg_n ?_ | refine aNg_r ?_ | refine aNg_e ?_)
   | ((with_reducible refine AW.region ?_); with_reducible refine aops_run (by simp [List.replicate_succ]; first | exact rfl | exact ⟨rfl, rfl⟩) ?_)
   | ((with_reducible refine AW.draw mixedP ?_ ?_); (focus first | exact .inl rfl | exact .inr (by decide)); with_reducible refine adraw_go (by simp [List.replicate_succ]; first | exact rfl | exact ⟨rfl, rfl, rfl⟩) ?_)
   | (with_reducible refine adraw_done (by kernel_rfl) ?_)
   | ((with_reducible refine aBlk_miss ?_ ?_); focus decide)
   | ((with_reducible refine cond_t ?_ ?_); focus (simp [ev]; done))
   | ((with_reducible refine cond_f ?_ ?_); focus (simp [ev]; done)))
  (with_reducible first | refine aops_c (hrs) Try.func33 (by kernel_rfl) (by kernel_rfl) ?_ ?_ ?_ | refine adraw_c (hrs) Try.func33 (by kernel_rfl) (by kernel_rfl) ?_ ?_ ?_)
  focus (simp [gate, foundS, stretchV, Stretch.row, hst]; done)
  focus (simp [pubCall, foundS, stretchV, Stretch.row, hst]; done)
  first | (with_reducible refine aops_run (by simp [List.replicate_succ, foundS, stretchV, Stretch.row, hst]; first | exact rfl | exact ⟨rfl, rfl⟩) ?_) | (with_reducible refine adraw_go (by simp [List.replicate_succ, foundS, stretchV, Stretch.row, hst]; first | exact rfl | exact ⟨rfl, rfl, rfl⟩) ?_)
  repeat (first
   | (with_reducible first | refine AW.seq ?_ | refine AW.block ?_ | refine aThen_n ?_ | refine aBlk_n ?_ | refine AW.ret ?_ | refine aThen_r ?_ | refine aBlk_r ?_ | refine aops_done ?_ | refine AW.skip ?_ | refine AW.exit ?_ | refine aThen_e ?_ | refine aBlk_hit ?_ | refine AW.label ?_ | refine AW.scope ?_ | refine aNg_n ?_ | refine aNg_r ?_ | refine aNg_e ?_)
   | ((with_reducible refine AW.region ?_); with_reducible refine aops_run (by simp [List.replicate_succ]; first | exact rfl | exact ⟨rfl, rfl⟩) ?_)
   | ((with_reducible refine AW.draw mixedP ?_ ?_); (focus first | exact .inl rfl | exact .inr (by decide)); with_reducible refine adraw_go (by simp [List.replicate_succ]; first | exact rfl | exact ⟨rfl, rfl, rfl⟩) ?_)
   | (with_reducible refine adraw_done (by kernel_rfl) ?_)
   | ((with_reducible refine aBlk_miss ?_ ?_); focus decide)
   | ((with_reducible refine cond_t ?_ ?_); focus (simp [ev]; done))
   | ((with_reducible refine cond_f ?_ ?_); focus (simp [ev]; done)))
  (with_reducible first | refine aops_c (h1) Try.func25 (by kernel_rfl) (by kernel_rfl) ?_ ?_ ?_ | refine adraw_c (h1) Try.func25 (by kernel_rfl) (by kernel_rfl) ?_ ?_ ?_)
  focus (simp [gate]; done)
  focus (simp [pubCall]; done)
  first | (with_reducible refine aops_run (by simp [List.replicate_succ]; first | exact rfl | exact ⟨rfl, rfl⟩) ?_) | (with_reducible refine adraw_go (by simp [List.replicate_succ]; first | exact rfl | exact ⟨rfl, rfl, rfl⟩) ?_)
  repeat (first
   | (with_reducible first | refine AW.seq ?_ | refine AW.block ?_ | refine aThen_n ?_ | refine aBlk_n ?_ | refine AW.ret ?_ | refine aThen_r ?_ | refine aBlk_r ?_ | refine aops_done ?_ | refine AW.skip ?_ | refine AW.exit ?_ | refine aThen_e ?_ | refine aBlk_hit ?_ | refine AW.label ?_ | refine AW.scope ?_ | refine aNg_n ?_ | refine aNg_r ?_ | refine aNg_e ?_)
   | ((with_reducible refine AW.region ?_); with_reducible refine aops_run (by simp [List.replicate_succ, hp, partsC]; first | exact rfl | exact ⟨rfl, rfl⟩) ?_)
   | ((with_reducible refine AW.draw mixedP ?_ ?_); (focus first | exact .inl rfl | exact .inr (by decide)); with_reducible refine adraw_go (by simp [List.replicate_succ, hp, partsC]; first | exact rfl | exact ⟨rfl, rfl, rfl⟩) ?_)
   | (with_reducible refine adraw_done (by kernel_rfl) ?_)
   | ((with_reducible refine aBlk_miss ?_ ?_); focus decide)
   | ((with_reducible refine cond_t ?_ ?_); focus (simp [ev, hp, partsC]; done))
   | ((with_reducible refine cond_f ?_ ?_); focus (simp [ev, hp, partsC]; done)))
  refine AW.loopH (ι := { q : Nat × Int // q.1 ≤ kids.length ∧ q.2 ≤ scale (bot f s.overlap 0 ((piecesL r s.parts).take q.1)) p ∧ 0 ≤ q.2 ∧ q.2 ≤ 1000000001 }) (fun q => [(10, .c (.int .i64 (q.1.1 : Int))), (9, .c (.int .i64 q.1.2))]) (fun _ => [.box 27 f.vs false, .box 41 [.c (.str name), .c (.str glyph), .c (.int .i64 r), .c (.int .i64 p)] false, .box 59 [.c (.str s.name), .c (sizesC s.sizes), .c (partsC s.parts), .c (.int .i64 s.overlap)] false, .box 45 [.c (.int .i64 3), .c (.str ⟨#[]⟩), .c (.int .i64 0), .c (.int .i64 mw), .c (.int .i64 T), .c (.int .i64 0), .c (.int .i64 0), .c (.int .i64 0), .c (.sl (Box.rows kids)), .c (.int .i64 0), .c (intsC [])] false]) (fun q => kids.length - q.1.1) ⟨(0, 0), by simp [bot, hzero]⟩ _ (by simp only [wr, wrOps, List.cons_append, List.nil_append, List.append_nil, List.append_assoc]; exact rfl) _ (by simp only [havoc, List.foldl_cons, List.foldl_nil, List.set_cons_zero, List.set_cons_succ]; exact rfl) ?_ ?_
  all_goals simp only [puts, List.foldl_cons, List.foldl_nil, List.set_cons_zero, List.set_cons_succ]
  · refine Le.weak (by simp [subT, partsC])
  · rintro ⟨⟨k, la⟩, hk, l1, l2, l3⟩
    simp only at hk l1 l2 l3 ⊢
    by_cases hlt : k < kids.length
    · obtain ⟨kn, ks, kw, kh, kd, ky, kk, ko, ksrc, hki, e1, e2, e3, e4, e5, e6, e7, e8, e9, e10, e11⟩ := hkf k hlt
      have hrow := rows_get kids k _ hki
      simp only [Box.row] at hrow
      have w1 : IntKind.i64.wrap (ky - kd) = ky - kd := wrap_i64 (by omega) (by omega)
      have w2 : IntKind.i64.wrap (ky + kh) = ky + kh := wrap_i64 (by omega) (by omega)
      have w3 : IntKind.i64.wrap (T + 2) = T + 2 := wrap_i64 (by omega) (by omega)
      have c1 : ¬ ky - kd < la := by omega
      have c2 : ¬ T + 2 < ky + kh := by omega
      have c3 : ¬ mw < kw := by omega
      have hw1 : IntKind.i64.wrap ((k : Int) + 1) = ((k + 1 : Nat) : Int) := by rw [wrap_i64 (by omega) (by omega)]; simp
      with_reducible refine AW.seq ?_
      with_reducible refine AW.seq ?_
      (with_reducible refine AW.region ?_); with_reducible refine aops_run (by simp [hlt]; first | exact rfl | exact ⟨rfl, rfl⟩) ?_
      with_reducible refine aops_done ?_
      with_reducible refine aThen_n ?_
      (with_reducible refine cond_t ?_ ?_); focus (simp [ev]; done)
      with_reducible refine AW.skip ?_
      with_reducible refine aThen_n ?_
      with_reducible refine AW.seq ?_
      with_reducible refine AW.block ?_
      with_reducible refine AW.seq ?_
      (with_reducible refine AW.region ?_); with_reducible refine aops_run (by simp [hlt, hrow]; first | exact rfl | exact ⟨rfl, rfl⟩) ?_
      with_reducible refine aops_done ?_
      with_reducible refine aThen_n ?_
      with_reducible refine AW.seq ?_
      with_reducible refine AW.seq ?_
      with_reducible refine AW.region ?_
      repeat (first | (with_reducible refine aops_done ?_) | (with_reducible refine aops_chunk (by simp only [List.append_eq, List.cons_append, List.nil_append, List.map_cons, List.map_nil]; exact rfl) 8 (by as_aux_lemma => simp [runG, gateS, List.replicate_succ, w1, w2, w3, c1, c2, c3]; first | exact rfl | exact ⟨rfl, rfl⟩) ?_))
      repeat (first
       | (with_reducible first | refine AW.seq ?_ | refine AW.block ?_ | refine aThen_n ?_ | refine aBlk_n ?_ | refine AW.ret ?_ | refine aThen_r ?_ | refine aBlk_r ?_ | refine aops_done ?_ | refine AW.skip ?_ | refine AW.exit ?_ | refine aThen_e ?_ | refine aBlk_hit ?_ | refine AW.label ?_ | refine AW.scope ?_ | refine aNg_n ?_ | refine aNg_r ?_ | refine aNg_e ?_)
       | ((with_reducible refine AW.region ?_); with_reducible refine aops_run (by simp [List.replicate_succ, w1, hw1]; first | exact rfl | exact ⟨rfl, rfl⟩) ?_)
       | ((with_reducible refine AW.draw mixedP ?_ ?_); (focus first | exact .inl rfl | exact .inr (by decide)); with_reducible refine adraw_go (by simp [List.replicate_succ, w1, hw1]; first | exact rfl | exact ⟨rfl, rfl, rfl⟩) ?_)
       | (with_reducible refine adraw_done (by kernel_rfl) ?_)
       | ((with_reducible refine aBlk_miss ?_ ?_); focus decide)
       | ((with_reducible refine cond_t ?_ ?_); focus (simp [ev, w1, hw1]; done))
       | ((with_reducible refine cond_f ?_ ?_); focus (simp [ev, w1, hw1]; done)))
      refine ⟨⟨(k + 1, ky - kd), by simp only; omega, by simp only; omega, by simp only; omega, by simp only; omega⟩, by simp only; omega, ?_⟩
      refine Le.wdrop 4 (Nat.le_of_ble_eq_true rfl) (by simp [subT, partsC]) (by simp [partsC]) (by simp [V.bnds, V.bnd]) (by simp [O.bnd, V.bnds, V.bnd, partsC])
    · repeat (first
       | (with_reducible first | refine AW.seq ?_ | refine AW.block ?_ | refine aThen_n ?_ | refine aBlk_n ?_ | refine AW.ret ?_ | refine aThen_r ?_ | refine aBlk_r ?_ | refine aops_done ?_ | refine AW.skip ?_ | refine AW.exit ?_ | refine aThen_e ?_ | refine aBlk_hit ?_ | refine AW.label ?_ | refine AW.scope ?_ | refine aNg_n ?_ | refine aNg_r ?_ | refine aNg_e ?_)
       | ((with_reducible refine AW.region ?_); with_reducible refine aops_run (by simp [List.replicate_succ, hlt]; first | exact rfl | exact ⟨rfl, rfl⟩) ?_)
       | ((with_reducible refine AW.draw mixedP ?_ ?_); (focus first | exact .inl rfl | exact .inr (by decide)); with_reducible refine adraw_go (by simp [List.replicate_succ, hlt]; first | exact rfl | exact ⟨rfl, rfl, rfl⟩) ?_)
       | (with_reducible refine adraw_done (by kernel_rfl) ?_)
       | ((with_reducible refine aBlk_miss ?_ ?_); focus decide)
       | ((with_reducible refine cond_t ?_ ?_); focus (simp [ev, hlt]; done))
       | ((with_reducible refine cond_f ?_ ?_); focus (simp [ev, hlt]; done)))
      refine AW.loopH (ι := { k : Nat // k ≤ s.parts.length }) (fun k => [(13, .c (.int .i64 (k.1 : Int))), (12, .c (.int .i64 ((piecesL r (s.parts.take k.1)).length : Int)))]) (fun _ => [.box 27 f.vs false, .box 41 [.c (.str name), .c (.str glyph), .c (.int .i64 r), .c (.int .i64 p)] false, .box 59 [.c (.str s.name), .c (sizesC s.sizes), .c (partsC s.parts), .c (.int .i64 s.overlap)] false, .box 45 [.c (.int .i64 3), .c (.str ⟨#[]⟩), .c (.int .i64 0), .c (.int .i64 mw), .c (.int .i64 T), .c (.int .i64 0), .c (.int .i64 0), .c (.int .i64 0), .c (.sl (Box.rows kids)), .c (.int .i64 0), .c (intsC [])] false]) (fun k => s.parts.length - k.1) ⟨0, by omega⟩ _ (by simp only [wr, wrOps, List.cons_append, List.nil_append, List.append_nil, List.append_assoc]; exact rfl) _ (by simp only [havoc, List.foldl_cons, List.foldl_nil, List.set_cons_zero, List.set_cons_succ]; exact rfl) ?_ ?_
      all_goals simp only [puts, List.foldl_cons, List.foldl_nil, List.set_cons_zero, List.set_cons_succ]
      · refine Le.weak (by simp [subT, partsC, piecesL])
      · rintro ⟨i, hi2⟩
        by_cases hlt2 : i < s.parts.length
        · obtain ⟨q, hq⟩ : ∃ q, s.parts[i] = q := ⟨_, rfl⟩
          have hcnt := pieces_cnt (r := r) (by omega) hlt2
          have hcl := pieces_len (r := r) (by omega) (by omega) (s.parts.take i)
          have htl : (s.parts.take i).length ≤ 8 := by rw [List.length_take]; omega
          rw [hq] at hcnt
          have hw1 : IntKind.i64.wrap ((i : Int) + 1) = ((i + 1 : Nat) : Int) := by rw [wrap_i64 (by omega) (by omega)]; simp
          cases hx : q.ext with
          | true =>
            have ht : times r q = r := by simp [times, hx]
            rw [ht] at hcnt
            have hw2 : IntKind.i64.wrap (((piecesL r (s.parts.take i)).length : Int) + r) = ((piecesL r (s.parts.take (i + 1))).length : Int) := by rw [hcnt]; exact wrap_i64 (by omega) (by omega)
            repeat (first
             | (with_reducible first | refine AW.seq ?_ | refine AW.block ?_ | refine aThen_n ?_ | refine aBlk_n ?_ | refine AW.ret ?_ | refine aThen_r ?_ | refine aBlk_r ?_ | refine aops_done ?_ | refine AW.skip ?_ | refine AW.exit ?_ | refine aThen_e ?_ | refine aBlk_hit ?_ | refine AW.label ?_ | refine AW.scope ?_ | refine aNg_n ?_ | refine aNg_r ?_ | refine aNg_e ?_)
             | ((with_reducible refine AW.region ?_); with_reducible refine aops_run (by simp [List.replicate_succ, hlt2, hq, partsC, Part.row, hx, hw1, hw2]; first | exact rfl | exact ⟨rfl, rfl⟩) ?_)
             | ((with_reducible refine AW.draw mixedP ?_ ?_); (focus first | exact .inl rfl | exact .inr (by decide)); with_reducible refine adraw_go (by simp [List.replicate_succ, hlt2, hq, partsC, Part.row, hx, hw1, hw2]; first | exact rfl | exact ⟨rfl, rfl, rfl⟩) ?_)
             | (with_reducible refine adraw_done (by kernel_rfl) ?_)
             | ((with_reducible refine aBlk_miss ?_ ?_); focus decide)
             | ((with_reducible refine cond_t ?_ ?_); focus (simp [ev, hlt2, hq, partsC, Part.row, hx, hw1, hw2]; done))
             | ((with_reducible refine cond_f ?_ ?_); focus (simp [ev, hlt2, hq, partsC, Part.row, hx, hw1, hw2]; done)))
            refine ⟨⟨i + 1, hlt2⟩, by simp only; omega, ?_⟩
            refine Le.weak (by simp [subT, partsC])
          | false =>
            have ht : times r q = 1 := by simp [times, hx]
            rw [ht] at hcnt
            have hw2 : IntKind.i64.wrap (((piecesL r (s.parts.take i)).length : Int) + 1) = ((piecesL r (s.parts.take (i + 1))).length : Int) := by rw [hcnt]; exact wrap_i64 (by omega) (by omega)
            repeat (first
             | (with_reducible first | refine AW.seq ?_ | refine AW.block ?_ | refine aThen_n ?_ | refine aBlk_n ?_ | refine AW.ret ?_ | refine aThen_r ?_ | refine aBlk_r ?_ | refine aops_done ?_ | refine AW.skip ?_ | refine AW.exit ?_ | refine aThen_e ?_ | refine aBlk_hit ?_ | refine AW.label ?_ | refine AW.scope ?_ | refine aNg_n ?_ | refine aNg_r ?_ | refine aNg_e ?_)
             | ((with_reducible refine AW.region ?_); with_reducible refine aops_run (by simp [List.replicate_succ, hlt2, hq, partsC, Part.row, hx, hw1, hw2]; first | exact rfl | exact ⟨rfl, rfl⟩) ?_)
             | ((with_reducible refine AW.draw mixedP ?_ ?_); (focus first | exact .inl rfl | exact .inr (by decide)); with_reducible refine adraw_go (by simp [List.replicate_succ, hlt2, hq, partsC, Part.row, hx, hw1, hw2]; first | exact rfl | exact ⟨rfl, rfl, rfl⟩) ?_)
             | (with_reducible refine adraw_done (by kernel_rfl) ?_)
             | ((with_reducible refine aBlk_miss ?_ ?_); focus decide)
             | ((with_reducible refine cond_t ?_ ?_); focus (simp [ev, hlt2, hq, partsC, Part.row, hx, hw1, hw2]; done))
             | ((with_reducible refine cond_f ?_ ?_); focus (simp [ev, hlt2, hq, partsC, Part.row, hx, hw1, hw2]; done)))
            refine ⟨⟨i + 1, hlt2⟩, by simp only; omega, ?_⟩
            refine Le.weak (by simp [subT, partsC])
        · obtain rfl : i = s.parts.length := by omega
          simp only [List.take_length] at *
          have hle : (kids.length : Int) = ((piecesL r s.parts).length : Int) := by rw [hkl]
          repeat (first
           | (with_reducible first | refine AW.seq ?_ | refine AW.block ?_ | refine aThen_n ?_ | refine aBlk_n ?_ | refine AW.ret ?_ | refine aThen_r ?_ | refine aBlk_r ?_ | refine aops_done ?_ | refine AW.skip ?_ | refine AW.exit ?_ | refine aThen_e ?_ | refine aBlk_hit ?_ | refine AW.label ?_ | refine AW.scope ?_ | refine aNg_n ?_ | refine aNg_r ?_ | refine aNg_e ?_)
           | ((with_reducible refine AW.region ?_); with_reducible refine aops_run (by simp [List.replicate_succ, hlt2, partsC, hle]; first | exact rfl | exact ⟨rfl, rfl⟩) ?_)
           | ((with_reducible refine AW.draw mixedP ?_ ?_); (focus first | exact .inl rfl | exact .inr (by decide)); with_reducible refine adraw_go (by simp [List.replicate_succ, hlt2, partsC, hle]; first | exact rfl | exact ⟨rfl, rfl, rfl⟩) ?_)
           | (with_reducible refine adraw_done (by kernel_rfl) ?_)
           | ((with_reducible refine aBlk_miss ?_ ?_); focus decide)
           | ((with_reducible refine cond_t ?_ ?_); focus (simp [ev, hlt2, partsC, hle]; done))
           | ((with_reducible refine cond_f ?_ ?_); focus (simp [ev, hlt2, partsC, hle]; done)))
          simp [aRet, ares, aresL, ares1, V.pub, V.pubs, ldV, Try.results9]
theorem lpieces_a (f : Font) (name glyph : ByteArray) (r p : Int) (hf : f.Fit) : AC Try.prog 9 [.agg f.vs, .agg [.c (.str name), .c (.str glyph), .c (.int .i64 r), .c (.int .i64 p)]] (.c (.bool true)) := by
  cases hS : smallB f 0 p with
  | false => exact lpieces_0 f name glyph r p hf hS
  | true =>
    by_cases hr : r < 1
    · exact lpieces_1 f name glyph r p hf hS hr
    · by_cases hr2 : 60 < r
      · exact lpieces_2 f name glyph r p hf hS hr hr2
      · cases hst : f.stretch name with
        | none => exact lpieces_n f name glyph r p hf hS hr hr2 hst
        | some s =>
          by_cases hp : s.parts = []
          · exact lpieces_e f name glyph r p hf hS hr hr2 s hst hp
          · exact lpieces_m f name glyph r p hf hS hr hr2 s hst hp
end Go.Proofs.Ythbcljjpmdfflaa
