/-
  Layer 6, the program, on the abstract machine: check, sizeHeight, tall, choose, Choose.
-/
import Derived.Test.YthbcljjpmdfflaaVt
import Derived.Test.YthbcljjpmdfflaaG4
namespace Go.Proofs.Ythbcljjpmdfflaa
open Go.RowKit
set_option linter.unusedSimpArgs false
set_option linter.unusedVariables false
set_option maxRecDepth 100000

theorem vcheck_a (f : Font) (p : Int) : AC Try.prog 60 [.agg f.vs, .c (.int .i64 p)] (errV (checkR f p)) := by
  cases hv : f.valid with
  | false =>
    refine AC.intro Try.func60 rfl ?_
    simp only [Try.ntmps60, List.map_cons, List.map_nil, List.length_cons, List.length_nil, Nat.reduceAdd, Nat.reduceSub, List.replicate_succ, List.replicate_zero, List.cons_append, List.nil_append]
    repeat (first
     | (with_reducible first | refine AW.seq ?_ | refine AW.block ?_ | refine aThen_n ?_ | refine aBlk_n ?_ | refine AW.ret ?_ | refine aThen_r ?_ | refine aBlk_r ?_ | refine aops_done ?_ | refine AW.skip ?_ | refine AW.exit ?_ | refine aThen_e ?_ | refine aBlk_hit ?_ | refine AW.label ?_ | refine AW.scope ?_ | refine aNg_n ?_ | refine aNg_r ?_ | refine aNg_e ?_)
     | ((with_reducible refine AW.region ?_); with_reducible refine aops_run (by simp [List.replicate_succ]; first | exact rfl | exact ⟨rfl, rfl⟩) ?_)
     | ((with_reducible refine AW.draw mixedP ?_ ?_); (focus first | exact .inl rfl | exact .inr (by decide)); with_reducible refine adraw_go (by simp [List.replicate_succ]; first | exact rfl | exact ⟨rfl, rfl, rfl⟩) ?_)
     | (with_reducible refine adraw_done (by kernel_rfl) ?_)
     | ((with_reducible refine aBlk_miss ?_ ?_); focus decide)
     | ((with_reducible refine cond_t ?_ ?_); focus (simp [ev]; done))
     | ((with_reducible refine cond_f ?_ ?_); focus (simp [ev]; done)))
    (with_reducible first | refine aops_c (fvalid_a f) Try.func88 (by kernel_rfl) (by kernel_rfl) ?_ ?_ ?_ | refine adraw_c (fvalid_a f) Try.func88 (by kernel_rfl) (by kernel_rfl) ?_ ?_ ?_)
    focus (simp [gate, hv]; done)
    focus (simp [pubCall, hv]; done)
    first | (with_reducible refine aops_run (by simp [List.replicate_succ, hv]; first | exact rfl | exact ⟨rfl, rfl⟩) ?_) | (with_reducible refine adraw_go (by simp [List.replicate_succ, hv]; first | exact rfl | exact ⟨rfl, rfl, rfl⟩) ?_)
    repeat (first
     | (with_reducible first | refine AW.seq ?_ | refine AW.block ?_ | refine aThen_n ?_ | refine aBlk_n ?_ | refine AW.ret ?_ | refine aThen_r ?_ | refine aBlk_r ?_ | refine aops_done ?_ | refine AW.skip ?_ | refine AW.exit ?_ | refine aThen_e ?_ | refine aBlk_hit ?_ | refine AW.label ?_ | refine AW.scope ?_ | refine aNg_n ?_ | refine aNg_r ?_ | refine aNg_e ?_)
     | ((with_reducible refine AW.region ?_); with_reducible refine aops_run (by simp [List.replicate_succ]; first | exact rfl | exact ⟨rfl, rfl⟩) ?_)
     | ((with_reducible refine AW.draw mixedP ?_ ?_); (focus first | exact .inl rfl | exact .inr (by decide)); with_reducible refine adraw_go (by simp [List.replicate_succ]; first | exact rfl | exact ⟨rfl, rfl, rfl⟩) ?_)
     | (with_reducible refine adraw_done (by kernel_rfl) ?_)
     | ((with_reducible refine aBlk_miss ?_ ?_); focus decide)
     | ((with_reducible refine cond_t ?_ ?_); focus (simp [ev]; done))
     | ((with_reducible refine cond_f ?_ ?_); focus (simp [ev]; done)))
    simp [aRet, ares, aresL, ares1, V.pub, V.pubs, ldV, Try.results60, errV, checkR, hv]
  | true =>
    by_cases h1 : p < 1
    · refine AC.intro Try.func60 rfl ?_
      simp only [Try.ntmps60, List.map_cons, List.map_nil, List.length_cons, List.length_nil, Nat.reduceAdd, Nat.reduceSub, List.replicate_succ, List.replicate_zero, List.cons_append, List.nil_append]
      repeat (first
       | (with_reducible first | refine AW.seq ?_ | refine AW.block ?_ | refine aThen_n ?_ | refine aBlk_n ?_ | refine AW.ret ?_ | refine aThen_r ?_ | refine aBlk_r ?_ | refine aops_done ?_ | refine AW.skip ?_ | refine AW.exit ?_ | refine aThen_e ?_ | refine aBlk_hit ?_ | refine AW.label ?_ | refine AW.scope ?_ | refine aNg_n ?_ | refine aNg_r ?_ | refine aNg_e ?_)
       | ((with_reducible refine AW.region ?_); with_reducible refine aops_run (by simp [List.replicate_succ]; first | exact rfl | exact ⟨rfl, rfl⟩) ?_)
       | ((with_reducible refine AW.draw mixedP ?_ ?_); (focus first | exact .inl rfl | exact .inr (by decide)); with_reducible refine adraw_go (by simp [List.replicate_succ]; first | exact rfl | exact ⟨rfl, rfl, rfl⟩) ?_)
       | (with_reducible refine adraw_done (by kernel_rfl) ?_)
       | ((with_reducible refine aBlk_miss ?_ ?_); focus decide)
       | ((with_reducible refine cond_t ?_ ?_); focus (simp [ev]; done))
       | ((with_reducible refine cond_f ?_ ?_); focus (simp [ev]; done)))
      (with_reducible first | refine aops_c (fvalid_a f) Try.func88 (by kernel_rfl) (by kernel_rfl) ?_ ?_ ?_ | refine adraw_c (fvalid_a f) Try.func88 (by kernel_rfl) (by kernel_rfl) ?_ ?_ ?_)
      focus (simp [gate, hv]; done)
      focus (simp [pubCall, hv]; done)
      first | (with_reducible refine aops_run (by simp [List.replicate_succ, hv]; first | exact rfl | exact ⟨rfl, rfl⟩) ?_) | (with_reducible refine adraw_go (by simp [List.replicate_succ, hv]; first | exact rfl | exact ⟨rfl, rfl, rfl⟩) ?_)
      repeat (first
       | (with_reducible first | refine AW.seq ?_ | refine AW.block ?_ | refine aThen_n ?_ | refine aBlk_n ?_ | refine AW.ret ?_ | refine aThen_r ?_ | refine aBlk_r ?_ | refine aops_done ?_ | refine AW.skip ?_ | refine AW.exit ?_ | refine aThen_e ?_ | refine aBlk_hit ?_ | refine AW.label ?_ | refine AW.scope ?_ | refine aNg_n ?_ | refine aNg_r ?_ | refine aNg_e ?_)
       | ((with_reducible refine AW.region ?_); with_reducible refine aops_run (by simp [List.replicate_succ, h1]; first | exact rfl | exact ⟨rfl, rfl⟩) ?_)
       | ((with_reducible refine AW.draw mixedP ?_ ?_); (focus first | exact .inl rfl | exact .inr (by decide)); with_reducible refine adraw_go (by simp [List.replicate_succ, h1]; first | exact rfl | exact ⟨rfl, rfl, rfl⟩) ?_)
       | (with_reducible refine adraw_done (by kernel_rfl) ?_)
       | ((with_reducible refine aBlk_miss ?_ ?_); focus decide)
       | ((with_reducible refine cond_t ?_ ?_); focus (simp [ev, h1]; done))
       | ((with_reducible refine cond_f ?_ ?_); focus (simp [ev, h1]; done)))
      simp [aRet, ares, aresL, ares1, V.pub, V.pubs, ldV, Try.results60, errV, checkR, hv, h1]
    · by_cases h2 : 100 < p
      · refine AC.intro Try.func60 rfl ?_
        simp only [Try.ntmps60, List.map_cons, List.map_nil, List.length_cons, List.length_nil, Nat.reduceAdd, Nat.reduceSub, List.replicate_succ, List.replicate_zero, List.cons_append, List.nil_append]
        repeat (first
         | (with_reducible first | refine AW.seq ?_ | refine AW.block ?_ | refine aThen_n ?_ | refine aBlk_n ?_ | refine AW.ret ?_ | refine aThen_r ?_ | refine aBlk_r ?_ | refine aops_done ?_ | refine AW.skip ?_ | refine AW.exit ?_ | refine aThen_e ?_ | refine aBlk_hit ?_ | refine AW.label ?_ | refine AW.scope ?_ | refine aNg_n ?_ | refine aNg_r ?_ | refine aNg_e ?_)
         | ((with_reducible refine AW.region ?_); with_reducible refine aops_run (by simp [List.replicate_succ]; first | exact rfl | exact ⟨rfl, rfl⟩) ?_)
         | ((with_reducible refine AW.draw mixedP ?_ ?_); (focus first | exact .inl rfl | exact .inr (by decide)); with_reducible refine adraw_go (by simp [List.replicate_succ]; first | exact rfl | exact ⟨rfl, rfl, rfl⟩) ?_)
         | (with_reducible refine adraw_done (by kernel_rfl) ?_)
         | ((with_reducible refine aBlk_miss ?_ ?_); focus decide)
         | ((with_reducible refine cond_t ?_ ?_); focus (simp [ev]; done))
         | ((with_reducible refine cond_f ?_ ?_); focus (simp [ev]; done)))
        (with_reducible first | refine aops_c (fvalid_a f) Try.func88 (by kernel_rfl) (by kernel_rfl) ?_ ?_ ?_ | refine adraw_c (fvalid_a f) Try.func88 (by kernel_rfl) (by kernel_rfl) ?_ ?_ ?_)
        focus (simp [gate, hv]; done)
        focus (simp [pubCall, hv]; done)
        first | (with_reducible refine aops_run (by simp [List.replicate_succ, hv]; first | exact rfl | exact ⟨rfl, rfl⟩) ?_) | (with_reducible refine adraw_go (by simp [List.replicate_succ, hv]; first | exact rfl | exact ⟨rfl, rfl, rfl⟩) ?_)
        repeat (first
         | (with_reducible first | refine AW.seq ?_ | refine AW.block ?_ | refine aThen_n ?_ | refine aBlk_n ?_ | refine AW.ret ?_ | refine aThen_r ?_ | refine aBlk_r ?_ | refine aops_done ?_ | refine AW.skip ?_ | refine AW.exit ?_ | refine aThen_e ?_ | refine aBlk_hit ?_ | refine AW.label ?_ | refine AW.scope ?_ | refine aNg_n ?_ | refine aNg_r ?_ | refine aNg_e ?_)
         | ((with_reducible refine AW.region ?_); with_reducible refine aops_run (by simp [List.replicate_succ, h1, h2]; first | exact rfl | exact ⟨rfl, rfl⟩) ?_)
         | ((with_reducible refine AW.draw mixedP ?_ ?_); (focus first | exact .inl rfl | exact .inr (by decide)); with_reducible refine adraw_go (by simp [List.replicate_succ, h1, h2]; first | exact rfl | exact ⟨rfl, rfl, rfl⟩) ?_)
         | (with_reducible refine adraw_done (by kernel_rfl) ?_)
         | ((with_reducible refine aBlk_miss ?_ ?_); focus decide)
         | ((with_reducible refine cond_t ?_ ?_); focus (simp [ev, h1, h2]; done))
         | ((with_reducible refine cond_f ?_ ?_); focus (simp [ev, h1, h2]; done)))
        simp [aRet, ares, aresL, ares1, V.pub, V.pubs, ldV, Try.results60, errV, checkR, hv, h1, h2]
      · refine AC.intro Try.func60 rfl ?_
        simp only [Try.ntmps60, List.map_cons, List.map_nil, List.length_cons, List.length_nil, Nat.reduceAdd, Nat.reduceSub, List.replicate_succ, List.replicate_zero, List.cons_append, List.nil_append]
        repeat (first
         | (with_reducible first | refine AW.seq ?_ | refine AW.block ?_ | refine aThen_n ?_ | refine aBlk_n ?_ | refine AW.ret ?_ | refine aThen_r ?_ | refine aBlk_r ?_ | refine aops_done ?_ | refine AW.skip ?_ | refine AW.exit ?_ | refine aThen_e ?_ | refine aBlk_hit ?_ | refine AW.label ?_ | refine AW.scope ?_ | refine aNg_n ?_ | refine aNg_r ?_ | refine aNg_e ?_)
         | ((with_reducible refine AW.region ?_); with_reducible refine aops_run (by simp [List.replicate_succ]; first | exact rfl | exact ⟨rfl, rfl⟩) ?_)
         | ((with_reducible refine AW.draw mixedP ?_ ?_); (focus first | exact .inl rfl | exact .inr (by decide)); with_reducible refine adraw_go (by simp [List.replicate_succ]; first | exact rfl | exact ⟨rfl, rfl, rfl⟩) ?_)
         | (with_reducible refine adraw_done (by kernel_rfl) ?_)
         | ((with_reducible refine aBlk_miss ?_ ?_); focus decide)
         | ((with_reducible refine cond_t ?_ ?_); focus (simp [ev]; done))
         | ((with_reducible refine cond_f ?_ ?_); focus (simp [ev]; done)))
        (with_reducible first | refine aops_c (fvalid_a f) Try.func88 (by kernel_rfl) (by kernel_rfl) ?_ ?_ ?_ | refine adraw_c (fvalid_a f) Try.func88 (by kernel_rfl) (by kernel_rfl) ?_ ?_ ?_)
        focus (simp [gate, hv]; done)
        focus (simp [pubCall, hv]; done)
        first | (with_reducible refine aops_run (by simp [List.replicate_succ, hv]; first | exact rfl | exact ⟨rfl, rfl⟩) ?_) | (with_reducible refine adraw_go (by simp [List.replicate_succ, hv]; first | exact rfl | exact ⟨rfl, rfl, rfl⟩) ?_)
        repeat (first
         | (with_reducible first | refine AW.seq ?_ | refine AW.block ?_ | refine aThen_n ?_ | refine aBlk_n ?_ | refine AW.ret ?_ | refine aThen_r ?_ | refine aBlk_r ?_ | refine aops_done ?_ | refine AW.skip ?_ | refine AW.exit ?_ | refine aThen_e ?_ | refine aBlk_hit ?_ | refine AW.label ?_ | refine AW.scope ?_ | refine aNg_n ?_ | refine aNg_r ?_ | refine aNg_e ?_)
         | ((with_reducible refine AW.region ?_); with_reducible refine aops_run (by simp [List.replicate_succ, h1, h2]; first | exact rfl | exact ⟨rfl, rfl⟩) ?_)
         | ((with_reducible refine AW.draw mixedP ?_ ?_); (focus first | exact .inl rfl | exact .inr (by decide)); with_reducible refine adraw_go (by simp [List.replicate_succ, h1, h2]; first | exact rfl | exact ⟨rfl, rfl, rfl⟩) ?_)
         | (with_reducible refine adraw_done (by kernel_rfl) ?_)
         | ((with_reducible refine aBlk_miss ?_ ?_); focus decide)
         | ((with_reducible refine cond_t ?_ ?_); focus (simp [ev, h1, h2]; done))
         | ((with_reducible refine cond_f ?_ ?_); focus (simp [ev, h1, h2]; done)))
        simp [aRet, ares, aresL, ares1, V.pub, V.pubs, ldV, Try.results60, errV, checkR, hv, h1, h2]

theorem vsize_a (f : Font) (name : ByteArray) (p : Int) (hl : f.glyphs.length ≤ maxLen) (hv : f.valid = true) (hp1 : 1 ≤ p) (hp2 : p ≤ 100) : AC Try.prog 104 [.agg f.vs, .c (.str name), .c (.int .i64 p)] (.c (.int .i64 (sizeH f name p))) := by
  obtain ⟨_, e2⟩ := sizedR_eq hv hp1 hp2 name
  have hb := scaled_b hv hp1 hp2 name
  have hS : sizeH f name p = ((f.pick name).scaled p).h + ((f.pick name).scaled p).d := by unfold sizeH; rw [e2]
  have hw : IntKind.i64.wrap (((f.pick name).scaled p).h + ((f.pick name).scaled p).d) = sizeH f name p := by rw [hS]; exact wrap_i64 (by omega) (by omega)
  have hsc := scaled_a (f.pick name) p
  rw [e2] at hsc
  obtain ⟨G, hG⟩ : ∃ G, (f.pick name).scaled p = G := ⟨_, rfl⟩
  rw [hG] at hsc hw
  refine AC.intro Try.func104 rfl ?_
  simp only [Try.ntmps104, List.map_cons, List.map_nil, List.length_cons, List.length_nil, Nat.reduceAdd, Nat.reduceSub, List.replicate_succ, List.replicate_zero, List.cons_append, List.nil_append]
  repeat (first
   | (with_reducible first | refine AW.seq ?_ | refine AW.block ?_ | refine aThen_n ?_ | refine aBlk_n ?_ | refine AW.ret ?_ | refine aThen_r ?_ | refine aBlk_r ?_ | refine aops_done ?_ | refine AW.skip ?_ | refine AW.exit ?_ | refine aThen_e ?_ | refine aBlk_hit ?_ | refine AW.label ?_ | refine AW.scope ?_ | refine aNg_n ?_ | refine aNg_r ?_ | refine aNg_e ?_)
   | ((with_reducible refine AW.region ?_); with_reducible refine aops_run (by simp [List.replicate_succ]; first | exact rfl | exact ⟨rfl, rfl⟩) ?_)
   | ((with_reducible refine AW.draw mixedP ?_ ?_); (focus first | exact .inl rfl | exact .inr (by decide)); with_reducible refine adraw_go (by simp [List.replicate_succ]; first | exact rfl | exact ⟨rfl, rfl, rfl⟩) ?_)
   | (with_reducible refine adraw_done (by kernel_rfl) ?_)
   | ((with_reducible refine aBlk_miss ?_ ?_); focus decide)
   | ((with_reducible refine cond_t ?_ ?_); focus (simp [ev]; done))
   | ((with_reducible refine cond_f ?_ ?_); focus (simp [ev]; done)))
  (with_reducible first | refine aops_c (pick_a f name hl) Try.func135 (by kernel_rfl) (by kernel_rfl) ?_ ?_ ?_ | refine adraw_c (pick_a f name hl) Try.func135 (by kernel_rfl) (by kernel_rfl) ?_ ?_ ?_)
  focus (simp [gate]; done)
  focus (simp [pubCall]; done)
  first | (with_reducible refine aops_run (by simp [List.replicate_succ]; first | exact rfl | exact ⟨rfl, rfl⟩) ?_) | (with_reducible refine adraw_go (by simp [List.replicate_succ]; first | exact rfl | exact ⟨rfl, rfl, rfl⟩) ?_)
  (with_reducible first | refine aops_c (hsc) Try.func134 (by kernel_rfl) (by kernel_rfl) ?_ ?_ ?_ | refine adraw_c (hsc) Try.func134 (by kernel_rfl) (by kernel_rfl) ?_ ?_ ?_)
  focus (simp [gate, scaledV, errV, glyphV, Glyph.row]; done)
  focus (simp [pubCall, scaledV, errV, glyphV, Glyph.row]; done)
  first | (with_reducible refine aops_run (by simp [List.replicate_succ, scaledV, errV, glyphV, Glyph.row]; first | exact rfl | exact ⟨rfl, rfl⟩) ?_) | (with_reducible refine adraw_go (by simp [List.replicate_succ, scaledV, errV, glyphV, Glyph.row]; first | exact rfl | exact ⟨rfl, rfl, rfl⟩) ?_)
  repeat (first
   | (with_reducible first | refine AW.seq ?_ | refine AW.block ?_ | refine aThen_n ?_ | refine aBlk_n ?_ | refine AW.ret ?_ | refine aThen_r ?_ | refine aBlk_r ?_ | refine aops_done ?_ | refine AW.skip ?_ | refine AW.exit ?_ | refine aThen_e ?_ | refine aBlk_hit ?_ | refine AW.label ?_ | refine AW.scope ?_ | refine aNg_n ?_ | refine aNg_r ?_ | refine aNg_e ?_)
   | ((with_reducible refine AW.region ?_); with_reducible refine aops_run (by simp [List.replicate_succ, hw]; first | exact rfl | exact ⟨rfl, rfl⟩) ?_)
   | ((with_reducible refine AW.draw mixedP ?_ ?_); (focus first | exact .inl rfl | exact .inr (by decide)); with_reducible refine adraw_go (by simp [List.replicate_succ, hw]; first | exact rfl | exact ⟨rfl, rfl, rfl⟩) ?_)
   | (with_reducible refine adraw_done (by kernel_rfl) ?_)
   | ((with_reducible refine aBlk_miss ?_ ?_); focus decide)
   | ((with_reducible refine cond_t ?_ ?_); focus (simp [ev, hw]; done))
   | ((with_reducible refine cond_f ?_ ?_); focus (simp [ev, hw]; done)))
  simp [aRet, ares, aresL, ares1, V.pub, V.pubs, ldV, Try.results104]

set_option maxHeartbeats 3200000 in
theorem vtall_a (f : Font) (s : Stretch) (r : Int) (hf : f.Fit) (hv : f.valid = true) (hs : s ∈ f.stretches) (hr1 : 1 ≤ r) (hr2 : r ≤ 1000) : AC Try.prog 105 [.agg f.vs, stretchV s, .c (.int .i64 r)] (.c (.int .i64 (tallI f s r))) := by
  obtain ⟨_, _, g3, g4, g5, g6⟩ := good_of hv hs
  have hT : tallI f s r = (tallF f r 0 0 s.parts).1 - ((tallF f r 0 0 s.parts).2 - 1) * s.overlap := rfl
  unfold stretchV
  refine AC.intro Try.func105 rfl ?_
  simp only [Try.ntmps105, List.map_cons, List.map_nil, List.length_cons, List.length_nil, Nat.reduceAdd, Nat.reduceSub, List.replicate_succ, List.replicate_zero, List.cons_append, List.nil_append, Stretch.row]
  repeat (first
   | (with_reducible first | refine AW.seq ?_ | refine AW.block ?_ | refine aThen_n ?_ | refine aBlk_n ?_ | refine AW.ret ?_ | refine aThen_r ?_ | refine aBlk_r ?_ | refine aops_done ?_ | refine AW.skip ?_ | refine AW.exit ?_ | refine aThen_e ?_ | refine aBlk_hit ?_ | refine AW.label ?_ | refine AW.scope ?_ | refine aNg_n ?_ | refine aNg_r ?_ | refine aNg_e ?_)
   | ((with_reducible refine AW.region ?_); with_reducible refine aops_run (by simp [List.replicate_succ, partsC]; first | exact rfl | exact ⟨rfl, rfl⟩) ?_)
   | ((with_reducible refine AW.draw mixedP ?_ ?_); (focus first | exact .inl rfl | exact .inr (by decide)); with_reducible refine adraw_go (by simp [List.replicate_succ, partsC]; first | exact rfl | exact ⟨rfl, rfl, rfl⟩) ?_)
   | (with_reducible refine adraw_done (by kernel_rfl) ?_)
   | ((with_reducible refine aBlk_miss ?_ ?_); focus decide)
   | ((with_reducible refine cond_t ?_ ?_); focus (simp [ev, partsC]; done))
   | ((with_reducible refine cond_f ?_ ?_); focus (simp [ev, partsC]; done)))
  refine AW.loopH (ι := { q : Nat × Int × Int // q.1 ≤ s.parts.length ∧ tallF f r 0 0 s.parts = tallF f r q.2.1 q.2.2 (s.parts.drop q.1) ∧ -(40000000 * (q.1 : Int)) ≤ q.2.1 ∧ q.2.1 ≤ 40000000 * (q.1 : Int) ∧ (q.1 : Int) ≤ q.2.2 ∧ q.2.2 ≤ 1000 * (q.1 : Int) }) (fun q => [(15, .c (.int .i64 (q.1.1 : Int))), (7, .c (.int .i64 q.1.2.1)), (8, .c (.int .i64 q.1.2.2))]) (fun _ => [.box 27 f.vs false, .box 59 (s.row.map V.c) false]) (fun q => s.parts.length - q.1.1) ⟨(0, 0, 0), by simp⟩ _ (by simp only [wr, wrOps, List.cons_append, List.nil_append, List.append_nil, List.append_assoc]; exact rfl) _ (by simp only [havoc, List.foldl_cons, List.foldl_nil, List.set_cons_zero, List.set_cons_succ]; exact rfl) ?_ ?_
  all_goals simp only [puts, List.foldl_cons, List.foldl_nil, List.set_cons_zero, List.set_cons_succ]
  · refine Le.weak (by simp [subT, Stretch.row, partsC])
  · rintro ⟨⟨k, hh, cc⟩, hk, hI, b1, b2, b3, b4⟩
    simp only at hk hI b1 b2 b3 b4 ⊢
    have hov := mul_bound s.overlap cc 60000 8000 (by omega) g5 (by omega) (by omega)
    rw [Int.mul_comm s.overlap cc] at hov
    by_cases hlt : k < s.parts.length
    · obtain ⟨q, hq⟩ : ∃ q, s.parts[k] = q := ⟨_, rfl⟩
      rw [List.drop_eq_getElem_cons hlt, hq] at hI
      simp only [tallF] at hI
      have hsm := pick_small hv q.name
      unfold Glyph.Small at hsm
      have hpa := pick_a f q.name hf.gl
      obtain ⟨g, hg⟩ : ∃ g, f.pick q.name = g := ⟨_, rfl⟩
      rw [hg] at hsm hI hpa
      have e3 : IntKind.i64.wrap (g.h + g.d) = g.height := wrap_i64 (by omega) (by omega)
      have e1 : -40000 ≤ g.height ∧ g.height ≤ 40000 := by unfold Glyph.height; omega
      obtain ⟨t1, t2⟩ := times_bound hr1 hr2 q
      have hw : IntKind.i64.wrap ((k : Int) + 1) = ((k + 1 : Nat) : Int) := by rw [wrap_i64 (by omega) (by omega)]; simp
      have m2 := mul_bound g.height (times r q) 40000 1000 (by omega) (by omega) (by omega) t2
      rw [Int.mul_comm g.height] at m2
      have w2 : IntKind.i64.wrap (times r q * g.height) = times r q * g.height := wrap_i64 (by omega) (by omega)
      have w3 : IntKind.i64.wrap (hh + times r q * g.height) = hh + times r q * g.height := wrap_i64 (by omega) (by omega)
      have w4 : IntKind.i64.wrap (cc + times r q) = cc + times r q := wrap_i64 (by omega) (by omega)
      cases hx : q.ext with
      | true =>
        have ht : times r q = r := by simp [times, hx]
        rw [ht] at w2 w3 w4 hI m2 t1 t2
        repeat (first
         | (with_reducible first | refine AW.seq ?_ | refine AW.block ?_ | refine aThen_n ?_ | refine aBlk_n ?_ | refine AW.ret ?_ | refine aThen_r ?_ | refine aBlk_r ?_ | refine aops_done ?_ | refine AW.skip ?_ | refine AW.exit ?_ | refine aThen_e ?_ | refine aBlk_hit ?_ | refine AW.label ?_ | refine AW.scope ?_ | refine aNg_n ?_ | refine aNg_r ?_ | refine aNg_e ?_)
         | ((with_reducible refine AW.region ?_); with_reducible refine aops_run (by simp [List.replicate_succ, hlt, hq, Stretch.row, partsC, Part.row, hx]; first | exact rfl | exact ⟨rfl, rfl⟩) ?_)
         | ((with_reducible refine AW.draw mixedP ?_ ?_); (focus first | exact .inl rfl | exact .inr (by decide)); with_reducible refine adraw_go (by simp [List.replicate_succ, hlt, hq, Stretch.row, partsC, Part.row, hx]; first | exact rfl | exact ⟨rfl, rfl, rfl⟩) ?_)
         | (with_reducible refine adraw_done (by kernel_rfl) ?_)
         | ((with_reducible refine aBlk_miss ?_ ?_); focus decide)
         | ((with_reducible refine cond_t ?_ ?_); focus (simp [ev, hlt, hq, Stretch.row, partsC, Part.row, hx]; done))
         | ((with_reducible refine cond_f ?_ ?_); focus (simp [ev, hlt, hq, Stretch.row, partsC, Part.row, hx]; done)))
        (with_reducible first | refine aops_c (hpa) Try.func135 (by kernel_rfl) (by kernel_rfl) ?_ ?_ ?_ | refine adraw_c (hpa) Try.func135 (by kernel_rfl) (by kernel_rfl) ?_ ?_ ?_)
        focus (simp [gate, glyphV, Glyph.row]; done)
        focus (simp [pubCall, glyphV, Glyph.row]; done)
        first | (with_reducible refine aops_run (by simp [List.replicate_succ, glyphV, Glyph.row]; first | exact rfl | exact ⟨rfl, rfl⟩) ?_) | (with_reducible refine adraw_go (by simp [List.replicate_succ, glyphV, Glyph.row]; first | exact rfl | exact ⟨rfl, rfl, rfl⟩) ?_)
        (with_reducible first | refine aops_c (fheight_a g) Try.func136 (by kernel_rfl) (by kernel_rfl) ?_ ?_ ?_ | refine adraw_c (fheight_a g) Try.func136 (by kernel_rfl) (by kernel_rfl) ?_ ?_ ?_)
        focus (simp [gate, glyphV, Glyph.row, e3, w2, w3]; done)
        focus (simp [pubCall, glyphV, Glyph.row, e3, w2, w3]; done)
        first | (with_reducible refine aops_run (by simp [List.replicate_succ, glyphV, Glyph.row, e3, w2, w3]; first | exact rfl | exact ⟨rfl, rfl⟩) ?_) | (with_reducible refine adraw_go (by simp [List.replicate_succ, glyphV, Glyph.row, e3, w2, w3]; first | exact rfl | exact ⟨rfl, rfl, rfl⟩) ?_)
        repeat (first
         | (with_reducible first | refine AW.seq ?_ | refine AW.block ?_ | refine aThen_n ?_ | refine aBlk_n ?_ | refine AW.ret ?_ | refine aThen_r ?_ | refine aBlk_r ?_ | refine aops_done ?_ | refine AW.skip ?_ | refine AW.exit ?_ | refine aThen_e ?_ | refine aBlk_hit ?_ | refine AW.label ?_ | refine AW.scope ?_ | refine aNg_n ?_ | refine aNg_r ?_ | refine aNg_e ?_)
         | ((with_reducible refine AW.region ?_); with_reducible refine aops_run (by simp [List.replicate_succ, w4, hw]; first | exact rfl | exact ⟨rfl, rfl⟩) ?_)
         | ((with_reducible refine AW.draw mixedP ?_ ?_); (focus first | exact .inl rfl | exact .inr (by decide)); with_reducible refine adraw_go (by simp [List.replicate_succ, w4, hw]; first | exact rfl | exact ⟨rfl, rfl, rfl⟩) ?_)
         | (with_reducible refine adraw_done (by kernel_rfl) ?_)
         | ((with_reducible refine aBlk_miss ?_ ?_); focus decide)
         | ((with_reducible refine cond_t ?_ ?_); focus (simp [ev, w4, hw]; done))
         | ((with_reducible refine cond_f ?_ ?_); focus (simp [ev, w4, hw]; done)))
        refine ⟨⟨(k + 1, hh + r * g.height, cc + r), by omega, hI, by simp only; omega, by simp only; omega, by simp only; omega, by simp only; omega⟩, by simp only; omega, ?_⟩
        refine Le.wdrop 2 (Nat.le_of_ble_eq_true rfl) (by simp [subT, Stretch.row, partsC]) (by simp [Stretch.row, partsC]) (by simp [V.bnds, V.bnd]) (by simp [O.bnd, V.bnds, V.bnd, Stretch.row, partsC])
      | false =>
        have ht : times r q = 1 := by simp [times, hx]
        rw [ht] at w2 w3 w4 hI m2 t1 t2
        simp only [Int.one_mul] at w2 w3 hI m2
        repeat (first
         | (with_reducible first | refine AW.seq ?_ | refine AW.block ?_ | refine aThen_n ?_ | refine aBlk_n ?_ | refine AW.ret ?_ | refine aThen_r ?_ | refine aBlk_r ?_ | refine aops_done ?_ | refine AW.skip ?_ | refine AW.exit ?_ | refine aThen_e ?_ | refine aBlk_hit ?_ | refine AW.label ?_ | refine AW.scope ?_ | refine aNg_n ?_ | refine aNg_r ?_ | refine aNg_e ?_)
         | ((with_reducible refine AW.region ?_); with_reducible refine aops_run (by simp [List.replicate_succ, hlt, hq, Stretch.row, partsC, Part.row, hx]; first | exact rfl | exact ⟨rfl, rfl⟩) ?_)
         | ((with_reducible refine AW.draw mixedP ?_ ?_); (focus first | exact .inl rfl | exact .inr (by decide)); with_reducible refine adraw_go (by simp [List.replicate_succ, hlt, hq, Stretch.row, partsC, Part.row, hx]; first | exact rfl | exact ⟨rfl, rfl, rfl⟩) ?_)
         | (with_reducible refine adraw_done (by kernel_rfl) ?_)
         | ((with_reducible refine aBlk_miss ?_ ?_); focus decide)
         | ((with_reducible refine cond_t ?_ ?_); focus (simp [ev, hlt, hq, Stretch.row, partsC, Part.row, hx]; done))
         | ((with_reducible refine cond_f ?_ ?_); focus (simp [ev, hlt, hq, Stretch.row, partsC, Part.row, hx]; done)))
        (with_reducible first | refine aops_c (hpa) Try.func135 (by kernel_rfl) (by kernel_rfl) ?_ ?_ ?_ | refine adraw_c (hpa) Try.func135 (by kernel_rfl) (by kernel_rfl) ?_ ?_ ?_)
        focus (simp [gate, glyphV, Glyph.row]; done)
        focus (simp [pubCall, glyphV, Glyph.row]; done)
        first | (with_reducible refine aops_run (by simp [List.replicate_succ, glyphV, Glyph.row]; first | exact rfl | exact ⟨rfl, rfl⟩) ?_) | (with_reducible refine adraw_go (by simp [List.replicate_succ, glyphV, Glyph.row]; first | exact rfl | exact ⟨rfl, rfl, rfl⟩) ?_)
        (with_reducible first | refine aops_c (fheight_a g) Try.func136 (by kernel_rfl) (by kernel_rfl) ?_ ?_ ?_ | refine adraw_c (fheight_a g) Try.func136 (by kernel_rfl) (by kernel_rfl) ?_ ?_ ?_)
        focus (simp [gate, glyphV, Glyph.row, e3, w2, w3]; done)
        focus (simp [pubCall, glyphV, Glyph.row, e3, w2, w3]; done)
        first | (with_reducible refine aops_run (by simp [List.replicate_succ, glyphV, Glyph.row, e3, w2, w3]; first | exact rfl | exact ⟨rfl, rfl⟩) ?_) | (with_reducible refine adraw_go (by simp [List.replicate_succ, glyphV, Glyph.row, e3, w2, w3]; first | exact rfl | exact ⟨rfl, rfl, rfl⟩) ?_)
        repeat (first
         | (with_reducible first | refine AW.seq ?_ | refine AW.block ?_ | refine aThen_n ?_ | refine aBlk_n ?_ | refine AW.ret ?_ | refine aThen_r ?_ | refine aBlk_r ?_ | refine aops_done ?_ | refine AW.skip ?_ | refine AW.exit ?_ | refine aThen_e ?_ | refine aBlk_hit ?_ | refine AW.label ?_ | refine AW.scope ?_ | refine aNg_n ?_ | refine aNg_r ?_ | refine aNg_e ?_)
         | ((with_reducible refine AW.region ?_); with_reducible refine aops_run (by simp [List.replicate_succ, w4, hw]; first | exact rfl | exact ⟨rfl, rfl⟩) ?_)
         | ((with_reducible refine AW.draw mixedP ?_ ?_); (focus first | exact .inl rfl | exact .inr (by decide)); with_reducible refine adraw_go (by simp [List.replicate_succ, w4, hw]; first | exact rfl | exact ⟨rfl, rfl, rfl⟩) ?_)
         | (with_reducible refine adraw_done (by kernel_rfl) ?_)
         | ((with_reducible refine aBlk_miss ?_ ?_); focus decide)
         | ((with_reducible refine cond_t ?_ ?_); focus (simp [ev, w4, hw]; done))
         | ((with_reducible refine cond_f ?_ ?_); focus (simp [ev, w4, hw]; done)))
        refine ⟨⟨(k + 1, hh + g.height, cc + 1), by omega, hI, by simp only; omega, by simp only; omega, by simp only; omega, by simp only; omega⟩, by simp only; omega, ?_⟩
        refine Le.wdrop 2 (Nat.le_of_ble_eq_true rfl) (by simp [subT, Stretch.row, partsC]) (by simp [Stretch.row, partsC]) (by simp [V.bnds, V.bnd]) (by simp [O.bnd, V.bnds, V.bnd, Stretch.row, partsC])
    · have e : tallF f r 0 0 s.parts = (hh, cc) := by rw [hI, List.drop_of_length_le (by omega)]; rfl
      have hR : tallI f s r = hh - (cc - 1) * s.overlap := by rw [hT, e]
      have hov2 : (cc - 1) * s.overlap = cc * s.overlap - s.overlap := by rw [Int.sub_mul]; omega
      have w0 : IntKind.i64.wrap (cc - 1) = cc - 1 := wrap_i64 (by omega) (by omega)
      have w1 : IntKind.i64.wrap ((cc - 1) * s.overlap) = (cc - 1) * s.overlap := wrap_i64 (by omega) (by omega)
      have w2 : IntKind.i64.wrap (hh - (cc - 1) * s.overlap) = hh - (cc - 1) * s.overlap := wrap_i64 (by omega) (by omega)
      repeat (first
       | (with_reducible first | refine AW.seq ?_ | refine AW.block ?_ | refine aThen_n ?_ | refine aBlk_n ?_ | refine AW.ret ?_ | refine aThen_r ?_ | refine aBlk_r ?_ | refine aops_done ?_ | refine AW.skip ?_ | refine AW.exit ?_ | refine aThen_e ?_ | refine aBlk_hit ?_ | refine AW.label ?_ | refine AW.scope ?_ | refine aNg_n ?_ | refine aNg_r ?_ | refine aNg_e ?_)
       | ((with_reducible refine AW.region ?_); with_reducible refine aops_run (by simp [List.replicate_succ, hlt, Stretch.row, partsC, w0, w1, w2]; first | exact rfl | exact ⟨rfl, rfl⟩) ?_)
       | ((with_reducible refine AW.draw mixedP ?_ ?_); (focus first | exact .inl rfl | exact .inr (by decide)); with_reducible refine adraw_go (by simp [List.replicate_succ, hlt, Stretch.row, partsC, w0, w1, w2]; first | exact rfl | exact ⟨rfl, rfl, rfl⟩) ?_)
       | (with_reducible refine adraw_done (by kernel_rfl) ?_)
       | ((with_reducible refine aBlk_miss ?_ ?_); focus decide)
       | ((with_reducible refine cond_t ?_ ?_); focus (simp [ev, hlt, Stretch.row, partsC, w0, w1, w2]; done))
       | ((with_reducible refine cond_f ?_ ?_); focus (simp [ev, hlt, Stretch.row, partsC, w0, w1, w2]; done)))
      simp [aRet, ares, aresL, ares1, V.pub, V.pubs, ldV, Try.results105, hR]

theorem vstretch_a (f : Font) (name : ByteArray) (hf : f.Fit) (hv : f.valid = true) : AC Try.prog 103 [.agg f.vs, .c (.str name)] (foundS (f.stretch name)) :=
  stretch_a f name hf.sl fun s hs => ⟨by have := (good_of hv hs).sizes2; omega, by have := (good_of hv hs).parts; omega⟩

set_option maxHeartbeats 1600000 in
theorem vchoose_a (f : Font) (name : ByteArray) (need p : Int) (hf : f.Fit) (hv : f.valid = true) (hp1 : 1 ≤ p) (hp2 : p ≤ 100) : AC Try.prog 61 [.agg f.vs, .c (.str name), .c (.int .i64 need), .c (.int .i64 p)] (choiceV (chooseI f name need p)) := by
  cases hst : f.stretch name with
  | none =>
    have hR2 : chooseI f name need p = ⟨name, 0⟩ := by unfold chooseI; rw [hst]
    rw [hR2]
    refine AC.intro Try.func61 rfl ?_
    simp only [Try.ntmps61, List.map_cons, List.map_nil, List.length_cons, List.length_nil, Nat.reduceAdd, Nat.reduceSub, List.replicate_succ, List.replicate_zero, List.cons_append, List.nil_append]
    repeat (first
     | (with_reducible first | refine AW.seq ?_ | refine AW.block ?_ | refine aThen_n ?_ | refine aBlk_n ?_ | refine AW.ret ?_ | refine aThen_r ?_ | refine aBlk_r ?_ | refine aops_done ?_ | refine AW.skip ?_ | refine AW.exit ?_ | refine aThen_e ?_ | refine aBlk_hit ?_ | refine AW.label ?_ | refine AW.scope ?_ | refine aNg_n ?_ | refine aNg_r ?_ | refine aNg_e ?_)
     | ((with_reducible refine AW.region ?_); with_reducible refine aops_run (by simp [List.replicate_succ]; first | exact rfl | exact ⟨rfl, rfl⟩) ?_)
     | ((with_reducible refine AW.draw mixedP ?_ ?_); (focus first | exact .inl rfl | exact .inr (by decide)); with_reducible refine adraw_go (by simp [List.replicate_succ]; first | exact rfl | exact ⟨rfl, rfl, rfl⟩) ?_)
     | (with_reducible refine adraw_done (by kernel_rfl) ?_)
     | ((with_reducible refine aBlk_miss ?_ ?_); focus decide)
     | ((with_reducible refine cond_t ?_ ?_); focus (simp [ev]; done))
     | ((with_reducible refine cond_f ?_ ?_); focus (simp [ev]; done)))
    (with_reducible first | refine aops_c (vstretch_a f name hf hv) Try.func103 (by kernel_rfl) (by kernel_rfl) ?_ ?_ ?_ | refine adraw_c (vstretch_a f name hf hv) Try.func103 (by kernel_rfl) (by kernel_rfl) ?_ ?_ ?_)
    focus (simp [gate, foundS, stretchV, Stretch.row, hst, Stretch.zero]; done)
    focus (simp [pubCall, foundS, stretchV, Stretch.row, hst, Stretch.zero]; done)
    first | (with_reducible refine aops_run (by simp [List.replicate_succ, foundS, stretchV, Stretch.row, hst, Stretch.zero]; first | exact rfl | exact ⟨rfl, rfl⟩) ?_) | (with_reducible refine adraw_go (by simp [List.replicate_succ, foundS, stretchV, Stretch.row, hst, Stretch.zero]; first | exact rfl | exact ⟨rfl, rfl, rfl⟩) ?_)
    repeat (first
     | (with_reducible first | refine AW.seq ?_ | refine AW.block ?_ | refine aThen_n ?_ | refine aBlk_n ?_ | refine AW.ret ?_ | refine aThen_r ?_ | refine aBlk_r ?_ | refine aops_done ?_ | refine AW.skip ?_ | refine AW.exit ?_ | refine aThen_e ?_ | refine aBlk_hit ?_ | refine AW.label ?_ | refine AW.scope ?_ | refine aNg_n ?_ | refine aNg_r ?_ | refine aNg_e ?_)
     | ((with_reducible refine AW.region ?_); with_reducible refine aops_run (by simp [List.replicate_succ]; first | exact rfl | exact ⟨rfl, rfl⟩) ?_)
     | ((with_reducible refine AW.draw mixedP ?_ ?_); (focus first | exact .inl rfl | exact .inr (by decide)); with_reducible refine adraw_go (by simp [List.replicate_succ]; first | exact rfl | exact ⟨rfl, rfl, rfl⟩) ?_)
     | (with_reducible refine adraw_done (by kernel_rfl) ?_)
     | ((with_reducible refine aBlk_miss ?_ ?_); focus decide)
     | ((with_reducible refine cond_t ?_ ?_); focus (simp [ev]; done))
     | ((with_reducible refine cond_f ?_ ?_); focus (simp [ev]; done)))
    simp [aRet, ares, aresL, ares1, V.pub, V.pubs, ldV, Try.results61, choiceV]
  | some s =>
    have hs := (stretchO_mem hst).1
    obtain ⟨g1, g2, g3, g4, g5, g6⟩ := good_of hv hs
    have hR : chooseI f name need p = chooseS f s need p := by unfold chooseI; rw [hst]
    refine AC.intro Try.func61 rfl ?_
    simp only [Try.ntmps61, List.map_cons, List.map_nil, List.length_cons, List.length_nil, Nat.reduceAdd, Nat.reduceSub, List.replicate_succ, List.replicate_zero, List.cons_append, List.nil_append]
    repeat (first
     | (with_reducible first | refine AW.seq ?_ | refine AW.block ?_ | refine aThen_n ?_ | refine aBlk_n ?_ | refine AW.ret ?_ | refine aThen_r ?_ | refine aBlk_r ?_ | refine aops_done ?_ | refine AW.skip ?_ | refine AW.exit ?_ | refine aThen_e ?_ | refine aBlk_hit ?_ | refine AW.label ?_ | refine AW.scope ?_ | refine aNg_n ?_ | refine aNg_r ?_ | refine aNg_e ?_)
     | ((with_reducible refine AW.region ?_); with_reducible refine aops_run (by simp [List.replicate_succ]; first | exact rfl | exact ⟨rfl, rfl⟩) ?_)
     | ((with_reducible refine AW.draw mixedP ?_ ?_); (focus first | exact .inl rfl | exact .inr (by decide)); with_reducible refine adraw_go (by simp [List.replicate_succ]; first | exact rfl | exact ⟨rfl, rfl, rfl⟩) ?_)
     | (with_reducible refine adraw_done (by kernel_rfl) ?_)
     | ((with_reducible refine aBlk_miss ?_ ?_); focus decide)
     | ((with_reducible refine cond_t ?_ ?_); focus (simp [ev]; done))
     | ((with_reducible refine cond_f ?_ ?_); focus (simp [ev]; done)))
    (with_reducible first | refine aops_c (vstretch_a f name hf hv) Try.func103 (by kernel_rfl) (by kernel_rfl) ?_ ?_ ?_ | refine adraw_c (vstretch_a f name hf hv) Try.func103 (by kernel_rfl) (by kernel_rfl) ?_ ?_ ?_)
    focus (simp [gate, foundS, stretchV, Stretch.row, hst]; done)
    focus (simp [pubCall, foundS, stretchV, Stretch.row, hst]; done)
    first | (with_reducible refine aops_run (by simp [List.replicate_succ, foundS, stretchV, Stretch.row, hst]; first | exact rfl | exact ⟨rfl, rfl⟩) ?_) | (with_reducible refine adraw_go (by simp [List.replicate_succ, foundS, stretchV, Stretch.row, hst]; first | exact rfl | exact ⟨rfl, rfl, rfl⟩) ?_)
    repeat (first
     | (with_reducible first | refine AW.seq ?_ | refine AW.block ?_ | refine aThen_n ?_ | refine aBlk_n ?_ | refine AW.ret ?_ | refine aThen_r ?_ | refine aBlk_r ?_ | refine aops_done ?_ | refine AW.skip ?_ | refine AW.exit ?_ | refine aThen_e ?_ | refine aBlk_hit ?_ | refine AW.label ?_ | refine AW.scope ?_ | refine aNg_n ?_ | refine aNg_r ?_ | refine aNg_e ?_)
     | ((with_reducible refine AW.region ?_); with_reducible refine aops_run (by simp [List.replicate_succ, sizesC]; first | exact rfl | exact ⟨rfl, rfl⟩) ?_)
     | ((with_reducible refine AW.draw mixedP ?_ ?_); (focus first | exact .inl rfl | exact .inr (by decide)); with_reducible refine adraw_go (by simp [List.replicate_succ, sizesC]; first | exact rfl | exact ⟨rfl, rfl, rfl⟩) ?_)
     | (with_reducible refine adraw_done (by kernel_rfl) ?_)
     | ((with_reducible refine aBlk_miss ?_ ?_); focus decide)
     | ((with_reducible refine cond_t ?_ ?_); focus (simp [ev, sizesC]; done))
     | ((with_reducible refine cond_f ?_ ?_); focus (simp [ev, sizesC]; done)))
    refine AW.loopH (ι := { k : Nat // k ≤ s.sizes.length ∧ firstSize f p need s.sizes = firstSize f p need (s.sizes.drop k) }) (fun k => [(27, .c (.int .i64 (k.1 : Int)))]) (fun _ => [.box 27 f.vs false, .box 32 [.c (.str ⟨#[]⟩), .c (.int .i64 0)] false, .box 59 (s.row.map V.c) false]) (fun k => s.sizes.length - k.1) ⟨0, by simp⟩ _ (by simp only [wr, wrOps, List.cons_append, List.nil_append, List.append_nil, List.append_assoc]; exact rfl) _ (by simp only [havoc, List.foldl_cons, List.foldl_nil, List.set_cons_zero, List.set_cons_succ]; exact rfl) ?_ ?_
    all_goals simp only [puts, List.foldl_cons, List.foldl_nil, List.set_cons_zero, List.set_cons_succ]
    · refine Le.weak (by simp [subT, Stretch.row, sizesC])
    · rintro ⟨k, hkl, hI⟩
      by_cases hlt : k < s.sizes.length
      · obtain ⟨n, hn⟩ : ∃ n, s.sizes[k] = n := ⟨_, rfl⟩
        rw [List.drop_eq_getElem_cons hlt, hn] at hI
        simp only [firstSize] at hI
        by_cases he : need ≤ sizeH f n p
        · rw [if_pos he] at hI
          have hR3 : chooseI f name need p = ⟨n, 0⟩ := by rw [hR]; unfold chooseS; rw [hI]
          repeat (first
           | (with_reducible first | refine AW.seq ?_ | refine AW.block ?_ | refine aThen_n ?_ | refine aBlk_n ?_ | refine AW.ret ?_ | refine aThen_r ?_ | refine aBlk_r ?_ | refine aops_done ?_ | refine AW.skip ?_ | refine AW.exit ?_ | refine aThen_e ?_ | refine aBlk_hit ?_ | refine AW.label ?_ | refine AW.scope ?_ | refine aNg_n ?_ | refine aNg_r ?_ | refine aNg_e ?_)
           | ((with_reducible refine AW.region ?_); with_reducible refine aops_run (by simp [List.replicate_succ, hlt, hn, Stretch.row, sizesC]; first | exact rfl | exact ⟨rfl, rfl⟩) ?_)
           | ((with_reducible refine AW.draw mixedP ?_ ?_); (focus first | exact .inl rfl | exact .inr (by decide)); with_reducible refine adraw_go (by simp [List.replicate_succ, hlt, hn, Stretch.row, sizesC]; first | exact rfl | exact ⟨rfl, rfl, rfl⟩) ?_)
           | (with_reducible refine adraw_done (by kernel_rfl) ?_)
           | ((with_reducible refine aBlk_miss ?_ ?_); focus decide)
           | ((with_reducible refine cond_t ?_ ?_); focus (simp [ev, hlt, hn, Stretch.row, sizesC]; done))
           | ((with_reducible refine cond_f ?_ ?_); focus (simp [ev, hlt, hn, Stretch.row, sizesC]; done)))
          (with_reducible first | refine aops_c (vsize_a f n p hf.gl hv hp1 hp2) Try.func104 (by kernel_rfl) (by kernel_rfl) ?_ ?_ ?_ | refine adraw_c (vsize_a f n p hf.gl hv hp1 hp2) Try.func104 (by kernel_rfl) (by kernel_rfl) ?_ ?_ ?_)
          focus (simp [gate, he]; done)
          focus (simp [pubCall, he]; done)
          first | (with_reducible refine aops_run (by simp [List.replicate_succ, he]; first | exact rfl | exact ⟨rfl, rfl⟩) ?_) | (with_reducible refine adraw_go (by simp [List.replicate_succ, he]; first | exact rfl | exact ⟨rfl, rfl, rfl⟩) ?_)
          repeat (first
           | (with_reducible first | refine AW.seq ?_ | refine AW.block ?_ | refine aThen_n ?_ | refine aBlk_n ?_ | refine AW.ret ?_ | refine aThen_r ?_ | refine aBlk_r ?_ | refine aops_done ?_ | refine AW.skip ?_ | refine AW.exit ?_ | refine aThen_e ?_ | refine aBlk_hit ?_ | refine AW.label ?_ | refine AW.scope ?_ | refine aNg_n ?_ | refine aNg_r ?_ | refine aNg_e ?_)
           | ((with_reducible refine AW.region ?_); with_reducible refine aops_run (by simp [List.replicate_succ, hlt, hn, he, Stretch.row, sizesC]; first | exact rfl | exact ⟨rfl, rfl⟩) ?_)
           | ((with_reducible refine AW.draw mixedP ?_ ?_); (focus first | exact .inl rfl | exact .inr (by decide)); with_reducible refine adraw_go (by simp [List.replicate_succ, hlt, hn, he, Stretch.row, sizesC]; first | exact rfl | exact ⟨rfl, rfl, rfl⟩) ?_)
           | (with_reducible refine adraw_done (by kernel_rfl) ?_)
           | ((with_reducible refine aBlk_miss ?_ ?_); focus decide)
           | ((with_reducible refine cond_t ?_ ?_); focus (simp [ev, hlt, hn, he, Stretch.row, sizesC]; done))
           | ((with_reducible refine cond_f ?_ ?_); focus (simp [ev, hlt, hn, he, Stretch.row, sizesC]; done)))
          simp [aRet, ares, aresL, ares1, V.pub, V.pubs, ldV, Try.results61, hR3, choiceV]
        · rw [if_neg he] at hI
          have hw : IntKind.i64.wrap ((k : Int) + 1) = ((k + 1 : Nat) : Int) := by rw [wrap_i64 (by omega) (by omega)]; simp
          repeat (first
           | (with_reducible first | refine AW.seq ?_ | refine AW.block ?_ | refine aThen_n ?_ | refine aBlk_n ?_ | refine AW.ret ?_ | refine aThen_r ?_ | refine aBlk_r ?_ | refine aops_done ?_ | refine AW.skip ?_ | refine AW.exit ?_ | refine aThen_e ?_ | refine aBlk_hit ?_ | refine AW.label ?_ | refine AW.scope ?_ | refine aNg_n ?_ | refine aNg_r ?_ | refine aNg_e ?_)
           | ((with_reducible refine AW.region ?_); with_reducible refine aops_run (by simp [List.replicate_succ, hlt, hn, Stretch.row, sizesC]; first | exact rfl | exact ⟨rfl, rfl⟩) ?_)
           | ((with_reducible refine AW.draw mixedP ?_ ?_); (focus first | exact .inl rfl | exact .inr (by decide)); with_reducible refine adraw_go (by simp [List.replicate_succ, hlt, hn, Stretch.row, sizesC]; first | exact rfl | exact ⟨rfl, rfl, rfl⟩) ?_)
           | (with_reducible refine adraw_done (by kernel_rfl) ?_)
           | ((with_reducible refine aBlk_miss ?_ ?_); focus decide)
           | ((with_reducible refine cond_t ?_ ?_); focus (simp [ev, hlt, hn, Stretch.row, sizesC]; done))
           | ((with_reducible refine cond_f ?_ ?_); focus (simp [ev, hlt, hn, Stretch.row, sizesC]; done)))
          (with_reducible first | refine aops_c (vsize_a f n p hf.gl hv hp1 hp2) Try.func104 (by kernel_rfl) (by kernel_rfl) ?_ ?_ ?_ | refine adraw_c (vsize_a f n p hf.gl hv hp1 hp2) Try.func104 (by kernel_rfl) (by kernel_rfl) ?_ ?_ ?_)
          focus (simp [gate, he]; done)
          focus (simp [pubCall, he]; done)
          first | (with_reducible refine aops_run (by simp [List.replicate_succ, he]; first | exact rfl | exact ⟨rfl, rfl⟩) ?_) | (with_reducible refine adraw_go (by simp [List.replicate_succ, he]; first | exact rfl | exact ⟨rfl, rfl, rfl⟩) ?_)
          repeat (first
           | (with_reducible first | refine AW.seq ?_ | refine AW.block ?_ | refine aThen_n ?_ | refine aBlk_n ?_ | refine AW.ret ?_ | refine aThen_r ?_ | refine aBlk_r ?_ | refine aops_done ?_ | refine AW.skip ?_ | refine AW.exit ?_ | refine aThen_e ?_ | refine aBlk_hit ?_ | refine AW.label ?_ | refine AW.scope ?_ | refine aNg_n ?_ | refine aNg_r ?_ | refine aNg_e ?_)
           | ((with_reducible refine AW.region ?_); with_reducible refine aops_run (by simp [List.replicate_succ, hlt, hn, he, Stretch.row, sizesC, hw]; first | exact rfl | exact ⟨rfl, rfl⟩) ?_)
           | ((with_reducible refine AW.draw mixedP ?_ ?_); (focus first | exact .inl rfl | exact .inr (by decide)); with_reducible refine adraw_go (by simp [List.replicate_succ, hlt, hn, he, Stretch.row, sizesC, hw]; first | exact rfl | exact ⟨rfl, rfl, rfl⟩) ?_)
           | (with_reducible refine adraw_done (by kernel_rfl) ?_)
           | ((with_reducible refine aBlk_miss ?_ ?_); focus decide)
           | ((with_reducible refine cond_t ?_ ?_); focus (simp [ev, hlt, hn, he, Stretch.row, sizesC, hw]; done))
           | ((with_reducible refine cond_f ?_ ?_); focus (simp [ev, hlt, hn, he, Stretch.row, sizesC, hw]; done)))
          refine ⟨⟨k + 1, by omega, hI⟩, by simp only; omega, ?_⟩
          refine Le.weak (by simp [subT, Stretch.row, sizesC])
      · have e : firstSize f p need s.sizes = none := by rw [hI, List.drop_of_length_le (by omega)]; rfl
        have hR3 : chooseS f s need p = if s.parts = [] then ⟨s.sizes.getD (s.sizes.length - 1) ⟨#[]⟩, 0⟩ else ⟨⟨#[]⟩, srch f s p need 999⟩ := by unfold chooseS; rw [e]
        by_cases hpn : s.parts = []
        · rw [if_pos hpn] at hR3
          obtain ⟨m, hm⟩ : ∃ m, s.sizes.length = m + 1 := ⟨s.sizes.length - 1, by omega⟩
          have hmlt : m < s.sizes.length := by omega
          obtain ⟨n, hn⟩ : ∃ n, s.sizes[m] = n := ⟨_, rfl⟩
          have hw : IntKind.i64.wrap ((s.sizes.length : Int) - 1) = (m : Int) := by rw [wrap_i64 (by omega) (by omega)]; omega
          have hg : s.sizes.getD (s.sizes.length - 1) ⟨#[]⟩ = n := by rw [hm]; simp [List.getD, hmlt, hn]
          rw [hg] at hR3
          rw [hR3] at hR
          repeat (first
           | (with_reducible first | refine AW.seq ?_ | refine AW.block ?_ | refine aThen_n ?_ | refine aBlk_n ?_ | refine AW.ret ?_ | refine aThen_r ?_ | refine aBlk_r ?_ | refine aops_done ?_ | refine AW.skip ?_ | refine AW.exit ?_ | refine aThen_e ?_ | refine aBlk_hit ?_ | refine AW.label ?_ | refine AW.scope ?_ | refine aNg_n ?_ | refine aNg_r ?_ | refine aNg_e ?_)
           | ((with_reducible refine AW.region ?_); with_reducible refine aops_run (by simp [List.replicate_succ, hlt, hpn, Stretch.row, sizesC, partsC, hw, hmlt, hn]; first | exact rfl | exact ⟨rfl, rfl⟩) ?_)
           | ((with_reducible refine AW.draw mixedP ?_ ?_); (focus first | exact .inl rfl | exact .inr (by decide)); with_reducible refine adraw_go (by simp [List.replicate_succ, hlt, hpn, Stretch.row, sizesC, partsC, hw, hmlt, hn]; first | exact rfl | exact ⟨rfl, rfl, rfl⟩) ?_)
           | (with_reducible refine adraw_done (by kernel_rfl) ?_)
           | ((with_reducible refine aBlk_miss ?_ ?_); focus decide)
           | ((with_reducible refine cond_t ?_ ?_); focus (simp [ev, hlt, hpn, Stretch.row, sizesC, partsC, hw, hmlt, hn]; done))
           | ((with_reducible refine cond_f ?_ ?_); focus (simp [ev, hlt, hpn, Stretch.row, sizesC, partsC, hw, hmlt, hn]; done)))
          simp [aRet, ares, aresL, ares1, V.pub, V.pubs, ldV, Try.results61, hR, choiceV]
        · rw [if_neg hpn] at hR3
          have hpl : ¬ s.parts.length = 0 := by simpa using hpn
          rw [hR3] at hR
          repeat (first
           | (with_reducible first | refine AW.seq ?_ | refine AW.block ?_ | refine aThen_n ?_ | refine aBlk_n ?_ | refine AW.ret ?_ | refine aThen_r ?_ | refine aBlk_r ?_ | refine aops_done ?_ | refine AW.skip ?_ | refine AW.exit ?_ | refine aThen_e ?_ | refine aBlk_hit ?_ | refine AW.label ?_ | refine AW.scope ?_ | refine aNg_n ?_ | refine aNg_r ?_ | refine aNg_e ?_)
           | ((with_reducible refine AW.region ?_); with_reducible refine aops_run (by simp [List.replicate_succ, hlt, hpn, hpl, Stretch.row, sizesC, partsC]; first | exact rfl | exact ⟨rfl, rfl⟩) ?_)
           | ((with_reducible refine AW.draw mixedP ?_ ?_); (focus first | exact .inl rfl | exact .inr (by decide)); with_reducible refine adraw_go (by simp [List.replicate_succ, hlt, hpn, hpl, Stretch.row, sizesC, partsC]; first | exact rfl | exact ⟨rfl, rfl, rfl⟩) ?_)
           | (with_reducible refine adraw_done (by kernel_rfl) ?_)
           | ((with_reducible refine aBlk_miss ?_ ?_); focus decide)
           | ((with_reducible refine cond_t ?_ ?_); focus (simp [ev, hlt, hpn, hpl, Stretch.row, sizesC, partsC]; done))
           | ((with_reducible refine cond_f ?_ ?_); focus (simp [ev, hlt, hpn, hpl, Stretch.row, sizesC, partsC]; done)))
          refine AW.loopH (ι := { r : Int // 1 ≤ r ∧ r ≤ 1000 ∧ srch f s p need 999 = srch f s p need (1000 - r).toNat }) (fun r => [(13, .c (.int .i64 r.1))]) (fun _ => [.box 27 f.vs false, .box 32 [.c (.str ⟨#[]⟩), .c (.int .i64 0)] false, .box 59 (s.row.map V.c) false]) (fun r => (1000 - r.1).toNat) ⟨1, by simp⟩ _ (by simp only [wr, wrOps, List.cons_append, List.nil_append, List.append_nil, List.append_assoc]; exact rfl) _ (by simp only [havoc, List.foldl_cons, List.foldl_nil, List.set_cons_zero, List.set_cons_succ]; exact rfl) ?_ ?_
          all_goals simp only [puts, List.foldl_cons, List.foldl_nil, List.set_cons_zero, List.set_cons_succ]
          · refine Le.weak (by simp [subT, Stretch.row])
          · rintro ⟨r, r1, r2, hS⟩
            by_cases hr : r < 1000
            · rw [srch_step f s p need r r1 hr] at hS
              by_cases hn : need ≤ scale (tallI f s r) p
              · rw [if_pos hn] at hS
                rw [hS] at hR
                repeat (first
                 | (with_reducible first | refine AW.seq ?_ | refine AW.block ?_ | refine aThen_n ?_ | refine aBlk_n ?_ | refine AW.ret ?_ | refine aThen_r ?_ | refine aBlk_r ?_ | refine aops_done ?_ | refine AW.skip ?_ | refine AW.exit ?_ | refine aThen_e ?_ | refine aBlk_hit ?_ | refine AW.label ?_ | refine AW.scope ?_ | refine aNg_n ?_ | refine aNg_r ?_ | refine aNg_e ?_)
                 | ((with_reducible refine AW.region ?_); with_reducible refine aops_run (by simp [List.replicate_succ, hr, Stretch.row]; first | exact rfl | exact ⟨rfl, rfl⟩) ?_)
                 | ((with_reducible refine AW.draw mixedP ?_ ?_); (focus first | exact .inl rfl | exact .inr (by decide)); with_reducible refine adraw_go (by simp [List.replicate_succ, hr, Stretch.row]; first | exact rfl | exact ⟨rfl, rfl, rfl⟩) ?_)
                 | (with_reducible refine adraw_done (by kernel_rfl) ?_)
                 | ((with_reducible refine aBlk_miss ?_ ?_); focus decide)
                 | ((with_reducible refine cond_t ?_ ?_); focus (simp [ev, hr, Stretch.row]; done))
                 | ((with_reducible refine cond_f ?_ ?_); focus (simp [ev, hr, Stretch.row]; done)))
                (with_reducible first | refine aops_c (vtall_a f s r hf hv hs r1 r2) Try.func105 (by kernel_rfl) (by kernel_rfl) ?_ ?_ ?_ | refine adraw_c (vtall_a f s r hf hv hs r1 r2) Try.func105 (by kernel_rfl) (by kernel_rfl) ?_ ?_ ?_)
                focus (simp [gate, stretchV, Stretch.row]; done)
                focus (simp [pubCall, stretchV, Stretch.row]; done)
                first | (with_reducible refine aops_run (by simp [List.replicate_succ, stretchV, Stretch.row]; first | exact rfl | exact ⟨rfl, rfl⟩) ?_) | (with_reducible refine adraw_go (by simp [List.replicate_succ, stretchV, Stretch.row]; first | exact rfl | exact ⟨rfl, rfl, rfl⟩) ?_)
                (with_reducible first | refine aops_c (scale_a (tallI f s r) p) Try.func74 (by kernel_rfl) (by kernel_rfl) ?_ ?_ ?_ | refine adraw_c (scale_a (tallI f s r) p) Try.func74 (by kernel_rfl) (by kernel_rfl) ?_ ?_ ?_)
                focus (simp [gate, hn]; done)
                focus (simp [pubCall, hn]; done)
                first | (with_reducible refine aops_run (by simp [List.replicate_succ, hn]; first | exact rfl | exact ⟨rfl, rfl⟩) ?_) | (with_reducible refine adraw_go (by simp [List.replicate_succ, hn]; first | exact rfl | exact ⟨rfl, rfl, rfl⟩) ?_)
                repeat (first
                 | (with_reducible first | refine AW.seq ?_ | refine AW.block ?_ | refine aThen_n ?_ | refine aBlk_n ?_ | refine AW.ret ?_ | refine aThen_r ?_ | refine aBlk_r ?_ | refine aops_done ?_ | refine AW.skip ?_ | refine AW.exit ?_ | refine aThen_e ?_ | refine aBlk_hit ?_ | refine AW.label ?_ | refine AW.scope ?_ | refine aNg_n ?_ | refine aNg_r ?_ | refine aNg_e ?_)
                 | ((with_reducible refine AW.region ?_); with_reducible refine aops_run (by simp [List.replicate_succ, hn]; first | exact rfl | exact ⟨rfl, rfl⟩) ?_)
                 | ((with_reducible refine AW.draw mixedP ?_ ?_); (focus first | exact .inl rfl | exact .inr (by decide)); with_reducible refine adraw_go (by simp [List.replicate_succ, hn]; first | exact rfl | exact ⟨rfl, rfl, rfl⟩) ?_)
                 | (with_reducible refine adraw_done (by kernel_rfl) ?_)
                 | ((with_reducible refine aBlk_miss ?_ ?_); focus decide)
                 | ((with_reducible refine cond_t ?_ ?_); focus (simp [ev, hn]; done))
                 | ((with_reducible refine cond_f ?_ ?_); focus (simp [ev, hn]; done)))
                simp [aRet, ares, aresL, ares1, V.pub, V.pubs, ldV, Try.results61, hR, choiceV]
              · rw [if_neg hn] at hS
                have hw : IntKind.i64.wrap (r + 1) = r + 1 := wrap_i64 (by omega) (by omega)
                repeat (first
                 | (with_reducible first | refine AW.seq ?_ | refine AW.block ?_ | refine aThen_n ?_ | refine aBlk_n ?_ | refine AW.ret ?_ | refine aThen_r ?_ | refine aBlk_r ?_ | refine aops_done ?_ | refine AW.skip ?_ | refine AW.exit ?_ | refine aThen_e ?_ | refine aBlk_hit ?_ | refine AW.label ?_ | refine AW.scope ?_ | refine aNg_n ?_ | refine aNg_r ?_ | refine aNg_e ?_)
                 | ((with_reducible refine AW.region ?_); with_reducible refine aops_run (by simp [List.replicate_succ, hr, Stretch.row]; first | exact rfl | exact ⟨rfl, rfl⟩) ?_)
                 | ((with_reducible refine AW.draw mixedP ?_ ?_); (focus first | exact .inl rfl | exact .inr (by decide)); with_reducible refine adraw_go (by simp [List.replicate_succ, hr, Stretch.row]; first | exact rfl | exact ⟨rfl, rfl, rfl⟩) ?_)
                 | (with_reducible refine adraw_done (by kernel_rfl) ?_)
                 | ((with_reducible refine aBlk_miss ?_ ?_); focus decide)
                 | ((with_reducible refine cond_t ?_ ?_); focus (simp [ev, hr, Stretch.row]; done))
                 | ((with_reducible refine cond_f ?_ ?_); focus (simp [ev, hr, Stretch.row]; done)))
                (with_reducible first | refine aops_c (vtall_a f s r hf hv hs r1 r2) Try.func105 (by kernel_rfl) (by kernel_rfl) ?_ ?_ ?_ | refine adraw_c (vtall_a f s r hf hv hs r1 r2) Try.func105 (by kernel_rfl) (by kernel_rfl) ?_ ?_ ?_)
                focus (simp [gate, stretchV, Stretch.row]; done)
                focus (simp [pubCall, stretchV, Stretch.row]; done)
                first | (with_reducible refine aops_run (by simp [List.replicate_succ, stretchV, Stretch.row]; first | exact rfl | exact ⟨rfl, rfl⟩) ?_) | (with_reducible refine adraw_go (by simp [List.replicate_succ, stretchV, Stretch.row]; first | exact rfl | exact ⟨rfl, rfl, rfl⟩) ?_)
                (with_reducible first | refine aops_c (scale_a (tallI f s r) p) Try.func74 (by kernel_rfl) (by kernel_rfl) ?_ ?_ ?_ | refine adraw_c (scale_a (tallI f s r) p) Try.func74 (by kernel_rfl) (by kernel_rfl) ?_ ?_ ?_)
                focus (simp [gate, hn]; done)
                focus (simp [pubCall, hn]; done)
                first | (with_reducible refine aops_run (by simp [List.replicate_succ, hn]; first | exact rfl | exact ⟨rfl, rfl⟩) ?_) | (with_reducible refine adraw_go (by simp [List.replicate_succ, hn]; first | exact rfl | exact ⟨rfl, rfl, rfl⟩) ?_)
                repeat (first
                 | (with_reducible first | refine AW.seq ?_ | refine AW.block ?_ | refine aThen_n ?_ | refine aBlk_n ?_ | refine AW.ret ?_ | refine aThen_r ?_ | refine aBlk_r ?_ | refine aops_done ?_ | refine AW.skip ?_ | refine AW.exit ?_ | refine aThen_e ?_ | refine aBlk_hit ?_ | refine AW.label ?_ | refine AW.scope ?_ | refine aNg_n ?_ | refine aNg_r ?_ | refine aNg_e ?_)
                 | ((with_reducible refine AW.region ?_); with_reducible refine aops_run (by simp [List.replicate_succ, hn, hw]; first | exact rfl | exact ⟨rfl, rfl⟩) ?_)
                 | ((with_reducible refine AW.draw mixedP ?_ ?_); (focus first | exact .inl rfl | exact .inr (by decide)); with_reducible refine adraw_go (by simp [List.replicate_succ, hn, hw]; first | exact rfl | exact ⟨rfl, rfl, rfl⟩) ?_)
                 | (with_reducible refine adraw_done (by kernel_rfl) ?_)
                 | ((with_reducible refine aBlk_miss ?_ ?_); focus decide)
                 | ((with_reducible refine cond_t ?_ ?_); focus (simp [ev, hn, hw]; done))
                 | ((with_reducible refine cond_f ?_ ?_); focus (simp [ev, hn, hw]; done)))
                refine ⟨⟨r + 1, by omega, by omega, hS⟩, by simp only; omega, ?_⟩
                refine Le.weak (by simp [subT, Stretch.row])
            · have e1 : r = 1000 := by omega
              subst e1
              have e2 : srch f s p need (1000 - 1000 : Int).toNat = 1000 := rfl
              rw [e2] at hS
              rw [hS] at hR
              repeat (first
               | (with_reducible first | refine AW.seq ?_ | refine AW.block ?_ | refine aThen_n ?_ | refine aBlk_n ?_ | refine AW.ret ?_ | refine aThen_r ?_ | refine aBlk_r ?_ | refine aops_done ?_ | refine AW.skip ?_ | refine AW.exit ?_ | refine aThen_e ?_ | refine aBlk_hit ?_ | refine AW.label ?_ | refine AW.scope ?_ | refine aNg_n ?_ | refine aNg_r ?_ | refine aNg_e ?_)
               | ((with_reducible refine AW.region ?_); with_reducible refine aops_run (by simp [List.replicate_succ]; first | exact rfl | exact ⟨rfl, rfl⟩) ?_)
               | ((with_reducible refine AW.draw mixedP ?_ ?_); (focus first | exact .inl rfl | exact .inr (by decide)); with_reducible refine adraw_go (by simp [List.replicate_succ]; first | exact rfl | exact ⟨rfl, rfl, rfl⟩) ?_)
               | (with_reducible refine adraw_done (by kernel_rfl) ?_)
               | ((with_reducible refine aBlk_miss ?_ ?_); focus decide)
               | ((with_reducible refine cond_t ?_ ?_); focus (simp [ev]; done))
               | ((with_reducible refine cond_f ?_ ?_); focus (simp [ev]; done)))
              simp [aRet, ares, aresL, ares1, V.pub, V.pubs, ldV, Try.results61, hR, choiceV]

theorem vChoose_a (f : Font) (name : ByteArray) (need p : Int) (hf : f.Fit) : AC Try.prog 23 [.agg f.vs, .c (.str name), .c (.int .i64 need), .c (.int .i64 p)] (choiceEV (chooseR f name need p)) := by
  by_cases hc : checkR f p = 0
  · have hk := hc
    unfold checkR at hk
    have hv : f.valid = true := by cases h : f.valid <;> simp [h] at hk; rfl
    have hpp : 1 ≤ p ∧ p ≤ 100 := by
      rw [if_neg (by simp [hv])] at hk
      split at hk <;> omega
    have hR : chooseR f name need p = (chooseI f name need p, 0) := by unfold chooseR; rw [if_neg (by simp [hc])]
    have hcl := vchoose_a f name need p hf hv hpp.1 hpp.2
    rw [hR]
    obtain ⟨c, hcc⟩ : ∃ c, chooseI f name need p = c := ⟨_, rfl⟩
    rw [hcc] at hcl ⊢
    obtain ⟨cg, cr⟩ := c
    simp only [choiceV, choiceEV, errV] at hcl ⊢
    refine AC.intro Try.func23 rfl ?_
    simp only [Try.ntmps23, List.map_cons, List.map_nil, List.length_cons, List.length_nil, Nat.reduceAdd, Nat.reduceSub, List.replicate_succ, List.replicate_zero, List.cons_append, List.nil_append]
    repeat (first
     | (with_reducible first | refine AW.seq ?_ | refine AW.block ?_ | refine aThen_n ?_ | refine aBlk_n ?_ | refine AW.ret ?_ | refine aThen_r ?_ | refine aBlk_r ?_ | refine aops_done ?_ | refine AW.skip ?_ | refine AW.exit ?_ | refine aThen_e ?_ | refine aBlk_hit ?_ | refine AW.label ?_ | refine AW.scope ?_ | refine aNg_n ?_ | refine aNg_r ?_ | refine aNg_e ?_)
     | ((with_reducible refine AW.region ?_); with_reducible refine aops_run (by simp [List.replicate_succ]; first | exact rfl | exact ⟨rfl, rfl⟩) ?_)
     | ((with_reducible refine AW.draw mixedP ?_ ?_); (focus first | exact .inl rfl | exact .inr (by decide)); with_reducible refine adraw_go (by simp [List.replicate_succ]; first | exact rfl | exact ⟨rfl, rfl, rfl⟩) ?_)
     | (with_reducible refine adraw_done (by kernel_rfl) ?_)
     | ((with_reducible refine aBlk_miss ?_ ?_); focus decide)
     | ((with_reducible refine cond_t ?_ ?_); focus (simp [ev]; done))
     | ((with_reducible refine cond_f ?_ ?_); focus (simp [ev]; done)))
    (with_reducible first | refine aops_c (vcheck_a f p) Try.func60 (by kernel_rfl) (by kernel_rfl) ?_ ?_ ?_ | refine adraw_c (vcheck_a f p) Try.func60 (by kernel_rfl) (by kernel_rfl) ?_ ?_ ?_)
    focus (simp [gate, hc, errV]; done)
    focus (simp [pubCall, hc, errV]; done)
    first | (with_reducible refine aops_run (by simp [List.replicate_succ, hc, errV]; first | exact rfl | exact ⟨rfl, rfl⟩) ?_) | (with_reducible refine adraw_go (by simp [List.replicate_succ, hc, errV]; first | exact rfl | exact ⟨rfl, rfl, rfl⟩) ?_)
    repeat (first
     | (with_reducible first | refine AW.seq ?_ | refine AW.block ?_ | refine aThen_n ?_ | refine aBlk_n ?_ | refine AW.ret ?_ | refine aThen_r ?_ | refine aBlk_r ?_ | refine aops_done ?_ | refine AW.skip ?_ | refine AW.exit ?_ | refine aThen_e ?_ | refine aBlk_hit ?_ | refine AW.label ?_ | refine AW.scope ?_ | refine aNg_n ?_ | refine aNg_r ?_ | refine aNg_e ?_)
     | ((with_reducible refine AW.region ?_); with_reducible refine aops_run (by simp [List.replicate_succ]; first | exact rfl | exact ⟨rfl, rfl⟩) ?_)
     | ((with_reducible refine AW.draw mixedP ?_ ?_); (focus first | exact .inl rfl | exact .inr (by decide)); with_reducible refine adraw_go (by simp [List.replicate_succ]; first | exact rfl | exact ⟨rfl, rfl, rfl⟩) ?_)
     | (with_reducible refine adraw_done (by kernel_rfl) ?_)
     | ((with_reducible refine aBlk_miss ?_ ?_); focus decide)
     | ((with_reducible refine cond_t ?_ ?_); focus (simp [ev]; done))
     | ((with_reducible refine cond_f ?_ ?_); focus (simp [ev]; done)))
    (with_reducible first | refine aops_c (hcl) Try.func61 (by kernel_rfl) (by kernel_rfl) ?_ ?_ ?_ | refine adraw_c (hcl) Try.func61 (by kernel_rfl) (by kernel_rfl) ?_ ?_ ?_)
    focus (simp [gate]; done)
    focus (simp [pubCall]; done)
    first | (with_reducible refine aops_run (by simp [List.replicate_succ]; first | exact rfl | exact ⟨rfl, rfl⟩) ?_) | (with_reducible refine adraw_go (by simp [List.replicate_succ]; first | exact rfl | exact ⟨rfl, rfl, rfl⟩) ?_)
    repeat (first
     | (with_reducible first | refine AW.seq ?_ | refine AW.block ?_ | refine aThen_n ?_ | refine aBlk_n ?_ | refine AW.ret ?_ | refine aThen_r ?_ | refine aBlk_r ?_ | refine aops_done ?_ | refine AW.skip ?_ | refine AW.exit ?_ | refine aThen_e ?_ | refine aBlk_hit ?_ | refine AW.label ?_ | refine AW.scope ?_ | refine aNg_n ?_ | refine aNg_r ?_ | refine aNg_e ?_)
     | ((with_reducible refine AW.region ?_); with_reducible refine aops_run (by simp [List.replicate_succ]; first | exact rfl | exact ⟨rfl, rfl⟩) ?_)
     | ((with_reducible refine AW.draw mixedP ?_ ?_); (focus first | exact .inl rfl | exact .inr (by decide)); with_reducible refine adraw_go (by simp [List.replicate_succ]; first | exact rfl | exact ⟨rfl, rfl, rfl⟩) ?_)
     | (with_reducible refine adraw_done (by kernel_rfl) ?_)
     | ((with_reducible refine aBlk_miss ?_ ?_); focus decide)
     | ((with_reducible refine cond_t ?_ ?_); focus (simp [ev]; done))
     | ((with_reducible refine cond_f ?_ ?_); focus (simp [ev]; done)))
    simp [aRet, ares, aresL, ares1, V.pub, V.pubs, ldV, Try.results23]
  · have hR : chooseR f name need p = (⟨⟨#[]⟩, 0⟩, checkR f p) := by unfold chooseR; rw [if_pos (by simp [hc])]
    refine AC.intro Try.func23 rfl ?_
    simp only [Try.ntmps23, List.map_cons, List.map_nil, List.length_cons, List.length_nil, Nat.reduceAdd, Nat.reduceSub, List.replicate_succ, List.replicate_zero, List.cons_append, List.nil_append]
    repeat (first
     | (with_reducible first | refine AW.seq ?_ | refine AW.block ?_ | refine aThen_n ?_ | refine aBlk_n ?_ | refine AW.ret ?_ | refine aThen_r ?_ | refine aBlk_r ?_ | refine aops_done ?_ | refine AW.skip ?_ | refine AW.exit ?_ | refine aThen_e ?_ | refine aBlk_hit ?_ | refine AW.label ?_ | refine AW.scope ?_ | refine aNg_n ?_ | refine aNg_r ?_ | refine aNg_e ?_)
     | ((with_reducible refine AW.region ?_); with_reducible refine aops_run (by simp [List.replicate_succ]; first | exact rfl | exact ⟨rfl, rfl⟩) ?_)
     | ((with_reducible refine AW.draw mixedP ?_ ?_); (focus first | exact .inl rfl | exact .inr (by decide)); with_reducible refine adraw_go (by simp [List.replicate_succ]; first | exact rfl | exact ⟨rfl, rfl, rfl⟩) ?_)
     | (with_reducible refine adraw_done (by kernel_rfl) ?_)
     | ((with_reducible refine aBlk_miss ?_ ?_); focus decide)
     | ((with_reducible refine cond_t ?_ ?_); focus (simp [ev]; done))
     | ((with_reducible refine cond_f ?_ ?_); focus (simp [ev]; done)))
    (with_reducible first | refine aops_c (vcheck_a f p) Try.func60 (by kernel_rfl) (by kernel_rfl) ?_ ?_ ?_ | refine adraw_c (vcheck_a f p) Try.func60 (by kernel_rfl) (by kernel_rfl) ?_ ?_ ?_)
    focus (simp [gate, errV]; done)
    focus (simp [pubCall, errV]; done)
    first | (with_reducible refine aops_run (by simp [List.replicate_succ, errV]; first | exact rfl | exact ⟨rfl, rfl⟩) ?_) | (with_reducible refine adraw_go (by simp [List.replicate_succ, errV]; first | exact rfl | exact ⟨rfl, rfl, rfl⟩) ?_)
    repeat (first
     | (with_reducible first | refine AW.seq ?_ | refine AW.block ?_ | refine aThen_n ?_ | refine aBlk_n ?_ | refine AW.ret ?_ | refine aThen_r ?_ | refine aBlk_r ?_ | refine aops_done ?_ | refine AW.skip ?_ | refine AW.exit ?_ | refine aThen_e ?_ | refine aBlk_hit ?_ | refine AW.label ?_ | refine AW.scope ?_ | refine aNg_n ?_ | refine aNg_r ?_ | refine aNg_e ?_)
     | ((with_reducible refine AW.region ?_); with_reducible refine aops_run (by simp [List.replicate_succ, hc]; first | exact rfl | exact ⟨rfl, rfl⟩) ?_)
     | ((with_reducible refine AW.draw mixedP ?_ ?_); (focus first | exact .inl rfl | exact .inr (by decide)); with_reducible refine adraw_go (by simp [List.replicate_succ, hc]; first | exact rfl | exact ⟨rfl, rfl, rfl⟩) ?_)
     | (with_reducible refine adraw_done (by kernel_rfl) ?_)
     | ((with_reducible refine aBlk_miss ?_ ?_); focus decide)
     | ((with_reducible refine cond_t ?_ ?_); focus (simp [ev, hc]; done))
     | ((with_reducible refine cond_f ?_ ?_); focus (simp [ev, hc]; done)))
    simp [aRet, ares, aresL, ares1, V.pub, V.pubs, ldV, Try.results23, hR, choiceEV, choiceV, errV]
end Go.Proofs.Ythbcljjpmdfflaa
