/-
  variant.assembly on the abstract machine.
-/
import Derived.Test.YthbcljjpmdfflaaVn
namespace Go.Proofs.Ythbcljjpmdfflaa
open Go.RowKit
set_option linter.unusedSimpArgs false
set_option linter.unusedVariables false
set_option maxRecDepth 100000

set_option maxHeartbeats 3200000 in
theorem vasm_a : AsmOk := by
  intro f s r p hf hv hs hr1 hr2 hp1 hp2 hp
  obtain ⟨_, _, g3, g4, g5, g6⟩ := good_of hv hs
  have hpl : 0 < s.parts.length := List.length_pos_iff.2 hp
  obtain ⟨tb1, tb2⟩ := tallI_bound hv hs hr1 hr2
  have hTA := vtall_a f s r hf hv hs hr1 hr2
  obtain ⟨T, hT⟩ : ∃ T, tallI f s r = T := ⟨_, rfl⟩
  rw [hT] at hTA tb1 tb2
  have hm1 : 128 * (s.parts.length : Int) ≤ 281474976710656 := by omega
  have hm2 : 8 * (s.parts.length : Int) ≤ 281474976710656 := by omega
  have hm3 : (s.parts.length : Int) ≤ 9223372036854775807 := by omega
  unfold stretchV at hTA ⊢
  refine AC.intro Try.func110 rfl ?_
  simp only [Try.ntmps110, List.map_cons, List.map_nil, List.length_cons, List.length_nil, Nat.reduceAdd, Nat.reduceSub, List.replicate_succ, List.replicate_zero, List.cons_append, List.nil_append, Stretch.row]
  repeat (first
   | (with_reducible first | refine AW.seq ?_ | refine AW.block ?_ | refine aThen_n ?_ | refine aBlk_n ?_ | refine AW.ret ?_ | refine aThen_r ?_ | refine aBlk_r ?_ | refine aops_done ?_ | refine AW.skip ?_ | refine AW.exit ?_ | refine aThen_e ?_ | refine aBlk_hit ?_ | refine AW.label ?_ | refine AW.scope ?_ | refine aNg_n ?_ | refine aNg_r ?_ | refine aNg_e ?_)
   | ((with_reducible refine AW.region ?_); with_reducible refine aops_run (by simp [List.replicate_succ, partsC, hm1, hm2, hm3]; first | exact rfl | exact ⟨rfl, rfl⟩) ?_)
   | ((with_reducible refine AW.draw mixedP ?_ ?_); (focus first | exact .inl rfl | exact .inr (by decide)); with_reducible refine adraw_go (by simp [List.replicate_succ, partsC, hm1, hm2, hm3]; first | exact rfl | exact ⟨rfl, rfl, rfl⟩) ?_)
   | (with_reducible refine adraw_done (by kernel_rfl) ?_)
   | ((with_reducible refine aBlk_miss ?_ ?_); focus decide)
   | ((with_reducible refine cond_t ?_ ?_); focus (simp [ev, partsC, hm1, hm2, hm3]; done))
   | ((with_reducible refine cond_f ?_ ?_); focus (simp [ev, partsC, hm1, hm2, hm3]; done)))
  (with_reducible first | refine aops_c (hTA) Try.func105 (by kernel_rfl) (by kernel_rfl) ?_ ?_ ?_ | refine adraw_c (hTA) Try.func105 (by kernel_rfl) (by kernel_rfl) ?_ ?_ ?_)
  focus (simp [gate, Stretch.row, partsC]; done)
  focus (simp [pubCall, Stretch.row, partsC]; done)
  first | (with_reducible refine aops_run (by simp [List.replicate_succ, Stretch.row, partsC]; first | exact rfl | exact ⟨rfl, rfl⟩) ?_) | (with_reducible refine adraw_go (by simp [List.replicate_succ, Stretch.row, partsC]; first | exact rfl | exact ⟨rfl, rfl, rfl⟩) ?_)
  (with_reducible first | refine aops_c (scale_a T p) Try.func74 (by kernel_rfl) (by kernel_rfl) ?_ ?_ ?_ | refine adraw_c (scale_a T p) Try.func74 (by kernel_rfl) (by kernel_rfl) ?_ ?_ ?_)
  focus (simp [gate]; done)
  focus (simp [pubCall]; done)
  first | (with_reducible refine aops_run (by simp [List.replicate_succ]; first | exact rfl | exact ⟨rfl, rfl⟩) ?_) | (with_reducible refine adraw_go (by simp [List.replicate_succ]; first | exact rfl | exact ⟨rfl, rfl, rfl⟩) ?_)
  repeat (first
   | (with_reducible first | refine AW.seq ?_ | refine AW.block ?_ | refine aThen_n ?_ | refine aBlk_n ?_ | refine AW.ret ?_ | refine aThen_r ?_ | refine aBlk_r ?_ | refine aops_done ?_ | refine AW.skip ?_ | refine AW.exit ?_ | refine aThen_e ?_ | refine aBlk_hit ?_ | refine AW.label ?_ | refine AW.scope ?_ | refine aNg_n ?_ | refine aNg_r ?_ | refine aNg_e ?_)
   | ((with_reducible refine AW.region ?_); with_reducible refine aops_run (by simp [List.replicate_succ, partsC]; first | exact rfl | exact ⟨rfl, rfl⟩) ?_)
   | ((with_reducible refine AW.draw mixedP ?_ ?_); (focus first | exact .inl rfl | exact .inr (by decide)); with_reducible refine adraw_go (by simp [List.replicate_succ, partsC]; first | exact rfl | exact ⟨rfl, rfl, rfl⟩) ?_)
   | (with_reducible refine adraw_done (by kernel_rfl) ?_)
   | ((with_reducible refine aBlk_miss ?_ ?_); focus decide)
   | ((with_reducible refine cond_t ?_ ?_); focus (simp [ev, partsC]; done))
   | ((with_reducible refine cond_f ?_ ?_); focus (simp [ev, partsC]; done)))
  have e4 : (List.replicate s.parts.length zboxC).flatten = bxC f p s.parts 0 := by simp [bxC]
  have e6 : List.replicate s.parts.length (V.c (.int .i64 0)) = htC f s.parts 0 := by simp [htC]
  simp only [zboxC] at e4
  rw [e4, e6]
  refine AW.loopH (ι := { q : Nat × Int // q.1 ≤ s.parts.length ∧ 0 ≤ q.2 ∧ q.2 ≤ 400000 ∧ (q.1 ≠ 0 → ∃ pt ∈ s.parts, q.2 = (sizedR f pt.name p).1.w) }) (fun q => [(38, .c (.int .i64 (q.1.1 : Int)))]) (fun q => [O.box 27 f.vs false, O.box 59 [.c (.str s.name), .c (sizesC s.sizes), .c (.sl (s.parts.map Part.row)), .c (.int .i64 s.overlap)] false, O.box 3 [.c (.int .i64 p)] false, O.box 45 zboxC false, O.box 45 (bxC f p s.parts q.1.1) false, O.box 42 [.own 4 0 s.parts.length 11] false, O.box 3 (htC f s.parts q.1.1) false, O.box 43 [.own 6 0 s.parts.length 1] false, O.box 45 (lstC q.1.2 (scale T p) (.full [])) false]) (fun q => s.parts.length - q.1.1) ⟨(0, 0), Nat.zero_le _, by simp, by simp, by simp⟩ _ (by simp only [wr, wrOps, List.cons_append, List.nil_append, List.append_nil, List.append_assoc]; exact rfl) _ (by simp only [havoc, List.foldl_cons, List.foldl_nil, List.set_cons_zero, List.set_cons_succ]; exact rfl) ?_ ?_
  all_goals simp only [puts, List.foldl_cons, List.foldl_nil, List.set_cons_zero, List.set_cons_succ]
  · refine Le.weak (by simp [subT, lstC, zboxC])
  · rintro ⟨⟨k, wl⟩, hk, w1, w2, w3⟩
    simp only at hk w1 w2 w3 ⊢
    by_cases hlt : k < s.parts.length
    · obtain ⟨q, hq⟩ : ∃ q, s.parts[k] = q := ⟨_, rfl⟩
      have hmem : q ∈ s.parts := hq ▸ List.getElem_mem hlt
      have hw : IntKind.i64.wrap ((k : Int) + 1) = ((k + 1 : Nat) : Int) := by rw [wrap_i64 (by omega) (by omega)]; simp
      have hc := fbox_a f q.name p hf.gl
      have hput4 := bxC_put f p s.parts k hlt
      have hput6 := htC_put f s.parts k hlt
      have hfit4 : k * 11 + 11 ≤ (bxC f p s.parts k).length := by rw [bxC_len _ _ _ _ hk]; omega
      have hfit6 : k + 1 ≤ (htC f s.parts k).length := by rw [htC_len _ _ _ hk]; omega
      rw [hq] at hput4 hput6
      have hwid := width_b hv hp1 hp2 q.name
      have hfb : fboxR f q.name p = ((sizedR f q.name p).1, 0) := by
        unfold fboxR
        rw [if_pos hv, (sizedR_eq hv hp1 hp2 q.name).1]
      rw [hfb] at hc
      obtain ⟨B, hB⟩ : ∃ B, (sizedR f q.name p).1 = B := ⟨_, rfl⟩
      have hw3 : ∃ pt ∈ s.parts, B.w = (sizedR f pt.name p).1.w := ⟨q, hmem, by rw [hB]⟩
      rw [hB] at hc hput4 hwid
      obtain ⟨bk, bn, bs, bw, bh, bd, bx, by_, bkids, bo, bsrc⟩ := B
      simp only [boxEV, errV, boxV, Box.row, List.map_cons, List.map_nil] at hc hput4 hwid hw3
      have hsm := pick_small hv q.name
      unfold Glyph.Small at hsm
      have hpa := pick_a f q.name hf.gl
      obtain ⟨g, hg⟩ : ∃ g, f.pick q.name = g := ⟨_, rfl⟩
      rw [hg] at hsm hpa hput6
      have e3 : IntKind.i64.wrap (g.h + g.d) = g.height := wrap_i64 (by omega) (by omega)
      repeat (first
       | (with_reducible first | refine AW.seq ?_ | refine AW.block ?_ | refine aThen_n ?_ | refine aBlk_n ?_ | refine AW.ret ?_ | refine aThen_r ?_ | refine aBlk_r ?_ | refine aops_done ?_ | refine AW.skip ?_ | refine AW.exit ?_ | refine aThen_e ?_ | refine aBlk_hit ?_ | refine AW.label ?_ | refine AW.scope ?_ | refine aNg_n ?_ | refine aNg_r ?_ | refine aNg_e ?_)
       | ((with_reducible refine AW.region ?_); with_reducible refine aops_run (by simp [List.replicate_succ, hlt, hq, Part.row]; first | exact rfl | exact ⟨rfl, rfl⟩) ?_)
       | ((with_reducible refine AW.draw mixedP ?_ ?_); (focus first | exact .inl rfl | exact .inr (by decide)); with_reducible refine adraw_go (by simp [List.replicate_succ, hlt, hq, Part.row]; first | exact rfl | exact ⟨rfl, rfl, rfl⟩) ?_)
       | (with_reducible refine adraw_done (by kernel_rfl) ?_)
       | ((with_reducible refine aBlk_miss ?_ ?_); focus decide)
       | ((with_reducible refine cond_t ?_ ?_); focus (simp [ev, hlt, hq, Part.row]; done))
       | ((with_reducible refine cond_f ?_ ?_); focus (simp [ev, hlt, hq, Part.row]; done)))
      (with_reducible first | refine aops_c (hc) Try.func109 (by kernel_rfl) (by kernel_rfl) ?_ ?_ ?_ | refine adraw_c (hc) Try.func109 (by kernel_rfl) (by kernel_rfl) ?_ ?_ ?_)
      focus (simp [gate]; done)
      focus (simp [pubCall]; done)
      first | (with_reducible refine aops_run (by simp [List.replicate_succ]; first | exact rfl | exact ⟨rfl, rfl⟩) ?_) | (with_reducible refine adraw_go (by simp [List.replicate_succ]; first | exact rfl | exact ⟨rfl, rfl, rfl⟩) ?_)
      repeat (first
       | (with_reducible first | refine AW.seq ?_ | refine AW.block ?_ | refine aThen_n ?_ | refine aBlk_n ?_ | refine AW.ret ?_ | refine aThen_r ?_ | refine aBlk_r ?_ | refine aops_done ?_ | refine AW.skip ?_ | refine AW.exit ?_ | refine aThen_e ?_ | refine aBlk_hit ?_ | refine AW.label ?_ | refine AW.scope ?_ | refine aNg_n ?_ | refine aNg_r ?_ | refine aNg_e ?_)
       | ((with_reducible refine AW.region ?_); with_reducible refine aops_run (by simp [List.replicate_succ]; first | exact rfl | exact ⟨rfl, rfl⟩) ?_)
       | ((with_reducible refine AW.draw mixedP ?_ ?_); (focus first | exact .inl rfl | exact .inr (by decide)); with_reducible refine adraw_go (by simp [List.replicate_succ]; first | exact rfl | exact ⟨rfl, rfl, rfl⟩) ?_)
       | (with_reducible refine adraw_done (by kernel_rfl) ?_)
       | ((with_reducible refine aBlk_miss ?_ ?_); focus decide)
       | ((with_reducible refine cond_t ?_ ?_); focus (simp [ev]; done))
       | ((with_reducible refine cond_f ?_ ?_); focus (simp [ev]; done)))
      (with_reducible first | refine aops_c (hpa) Try.func135 (by kernel_rfl) (by kernel_rfl) ?_ ?_ ?_ | refine adraw_c (hpa) Try.func135 (by kernel_rfl) (by kernel_rfl) ?_ ?_ ?_)
      focus (simp [gate, glyphV, Glyph.row]; done)
      focus (simp [pubCall, glyphV, Glyph.row]; done)
      first | (with_reducible refine aops_run (by simp [List.replicate_succ, glyphV, Glyph.row]; first | exact rfl | exact ⟨rfl, rfl⟩) ?_) | (with_reducible refine adraw_go (by simp [List.replicate_succ, glyphV, Glyph.row]; first | exact rfl | exact ⟨rfl, rfl, rfl⟩) ?_)
      (with_reducible first | refine aops_c (fheight_a g) Try.func136 (by kernel_rfl) (by kernel_rfl) ?_ ?_ ?_ | refine adraw_c (fheight_a g) Try.func136 (by kernel_rfl) (by kernel_rfl) ?_ ?_ ?_)
      focus (simp [gate, glyphV, Glyph.row, e3, hput4, hput6, hfit4, hfit6, hlt]; done)
      focus (simp [pubCall, glyphV, Glyph.row, e3, hput4, hput6, hfit4, hfit6, hlt]; done)
      first | (with_reducible refine aops_run (by simp [List.replicate_succ, -putL, glyphV, Glyph.row, e3, hput4, hput6, hfit4, hfit6, hlt]; first | exact rfl | exact ⟨rfl, rfl⟩) ?_) | (with_reducible refine adraw_go (by simp [List.replicate_succ, -putL, glyphV, Glyph.row, e3, hput4, hput6, hfit4, hfit6, hlt]; first | exact rfl | exact ⟨rfl, rfl, rfl⟩) ?_)
      repeat (first
       | (with_reducible first | refine AW.seq ?_ | refine AW.block ?_ | refine aThen_n ?_ | refine aBlk_n ?_ | refine AW.ret ?_ | refine aThen_r ?_ | refine aBlk_r ?_ | refine aops_done ?_ | refine AW.skip ?_ | refine AW.exit ?_ | refine aThen_e ?_ | refine aBlk_hit ?_ | refine AW.label ?_ | refine AW.scope ?_ | refine aNg_n ?_ | refine aNg_r ?_ | refine aNg_e ?_)
       | ((with_reducible refine AW.region ?_); with_reducible refine aops_run (by simp [List.replicate_succ, lstC, hw]; first | exact rfl | exact ⟨rfl, rfl⟩) ?_)
       | ((with_reducible refine AW.draw mixedP ?_ ?_); (focus first | exact .inl rfl | exact .inr (by decide)); with_reducible refine adraw_go (by simp [List.replicate_succ, lstC, hw]; first | exact rfl | exact ⟨rfl, rfl, rfl⟩) ?_)
       | (with_reducible refine adraw_done (by kernel_rfl) ?_)
       | ((with_reducible refine aBlk_miss ?_ ?_); focus decide)
       | ((with_reducible refine cond_t ?_ ?_); focus (simp [ev, lstC, hw]; done))
       | ((with_reducible refine cond_f ?_ ?_); focus (simp [ev, lstC, hw]; done)))
      refine ⟨⟨(k + 1, bw), by simp only; omega, by simp only; omega, by simp only; omega, fun _ => hw3⟩, by simp only; omega, ?_⟩
      refine Le.wdrop 9 (Nat.le_of_ble_eq_true rfl) (by simp [subT, lstC, zboxC, bxC_bnd, htC_bnd]) (by simp [lstC, zboxC, bxC_bnd, htC_bnd]) (by simp [V.bnds, V.bnd]) (by simp [O.bnd, V.bnds, V.bnd, lstC, zboxC, bxC_bnd, htC_bnd])
    · obtain rfl : k = s.parts.length := by omega
      have w3 := w3 (by omega)
      repeat (first
       | (with_reducible first | refine AW.seq ?_ | refine AW.block ?_ | refine aThen_n ?_ | refine aBlk_n ?_ | refine AW.ret ?_ | refine aThen_r ?_ | refine aBlk_r ?_ | refine aops_done ?_ | refine AW.skip ?_ | refine AW.exit ?_ | refine aThen_e ?_ | refine aBlk_hit ?_ | refine AW.label ?_ | refine AW.scope ?_ | refine aNg_n ?_ | refine aNg_r ?_ | refine aNg_e ?_)
       | ((with_reducible refine AW.region ?_); with_reducible refine aops_run (by simp [List.replicate_succ]; first | exact rfl | exact ⟨rfl, rfl⟩) ?_)
       | ((with_reducible refine AW.draw mixedP ?_ ?_); (focus first | exact .inl rfl | exact .inr (by decide)); with_reducible refine adraw_go (by simp [List.replicate_succ]; first | exact rfl | exact ⟨rfl, rfl, rfl⟩) ?_)
       | (with_reducible refine adraw_done (by kernel_rfl) ?_)
       | ((with_reducible refine aBlk_miss ?_ ?_); focus decide)
       | ((with_reducible refine cond_t ?_ ?_); focus (simp [ev]; done))
       | ((with_reducible refine cond_f ?_ ?_); focus (simp [ev]; done)))
      (with_reducible first | refine aops_c (pieces_a s r) Try.func138 (by kernel_rfl) (by kernel_rfl) ?_ ?_ ?_ | refine adraw_c (pieces_a s r) Try.func138 (by kernel_rfl) (by kernel_rfl) ?_ ?_ ?_)
      focus (simp [gate, stretchV, Stretch.row, partsC]; done)
      focus (simp [pubCall, stretchV, Stretch.row, partsC]; done)
      first | (with_reducible refine aops_run (by simp [List.replicate_succ, stretchV, Stretch.row, partsC]; first | exact rfl | exact ⟨rfl, rfl⟩) ?_) | (with_reducible refine adraw_go (by simp [List.replicate_succ, stretchV, Stretch.row, partsC]; first | exact rfl | exact ⟨rfl, rfl, rfl⟩) ?_)
      repeat (first
       | (with_reducible first | refine AW.seq ?_ | refine AW.block ?_ | refine aThen_n ?_ | refine aBlk_n ?_ | refine AW.ret ?_ | refine aThen_r ?_ | refine aBlk_r ?_ | refine aops_done ?_ | refine AW.skip ?_ | refine AW.exit ?_ | refine aThen_e ?_ | refine aBlk_hit ?_ | refine AW.label ?_ | refine AW.scope ?_ | refine aNg_n ?_ | refine aNg_r ?_ | refine aNg_e ?_)
       | ((with_reducible refine AW.region ?_); with_reducible refine aops_run (by simp [List.replicate_succ]; first | exact rfl | exact ⟨rfl, rfl⟩) ?_)
       | ((with_reducible refine AW.draw mixedP ?_ ?_); (focus first | exact .inl rfl | exact .inr (by decide)); with_reducible refine adraw_go (by simp [List.replicate_succ]; first | exact rfl | exact ⟨rfl, rfl, rfl⟩) ?_)
       | (with_reducible refine adraw_done (by kernel_rfl) ?_)
       | ((with_reducible refine aBlk_miss ?_ ?_); focus decide)
       | ((with_reducible refine cond_t ?_ ?_); focus (simp [ev]; done))
       | ((with_reducible refine cond_f ?_ ?_); focus (simp [ev]; done)))
      refine AW.frz 4 rfl (bxC_all f p s.parts) (by simp [V.frzs, V.frz, bxs_chop]; exact rfl) (by simp [O.frz, V.frzs, V.frz, bxs_chop, frzs_bx, frzs_ht, lstC, zboxC]; exact rfl) ?_
      refine AW.frz 6 rfl (htC_all f s.parts) (by simp [V.frzs, V.frz, hts_chop]; exact rfl) (by simp [O.frz, V.frzs, V.frz, hts_chop, frzs_bx, frzs_ht, lstC, zboxC]; exact rfl) ?_
      refine AW.le (Le.tokCell 8 8 45 11 rfl rfl) ?_
      simp only [List.length_cons, List.length_nil, Nat.reduceAdd, List.set_cons_zero, List.set_cons_succ, List.cons_append, List.nil_append]
      have hwl : (whole r s.parts).length ≤ 8000 := by
        have h1 := pieces_len hr1 hr2 s.parts
        rw [← whole_map, List.length_map] at h1
        omega
      refine AW.range (α := Fin s.parts.length) rfl rfl rfl (caps := [.cp s.row 0, .cp [.int .i64 r] 0]) rfl rfl Try.func147 (by kernel_rfl) (by kernel_rfl) (encI s.parts) (fun y => .c (.int .i64 ((y.val : Nat) : Int))) ?_ (fun xs => xs = whole r s.parts) (whole r s.parts).length (pieces1_i s r g3 hr1 hr2)
        (fun pre => [O.box 27 f.vs false, O.box 59 [.c (.str s.name), .c (sizesC s.sizes), .c (.sl (s.parts.map Part.row)), .c (.int .i64 s.overlap)] false, O.box 3 [.c (.int .i64 p)] false, O.box 45 zboxC false, O.box 45 (bxC f p s.parts s.parts.length) true, O.box 42 [.c (.sl (bxs f p s.parts))] false, O.box 3 (htC f s.parts s.parts.length) true, O.box 43 [.c (.sl (hts f s.parts))] false, O.box 45 (lstC (maxW wl (asmKids f s.overlap p 0 (pre.map fun i => s.parts[i]))) (scale T p) (.gr 10 11 (Box.rows (asmKids f s.overlap p 0 (pre.map fun i => s.parts[i]))))) false, O.box 3 [.c (.int .i64 (bot f s.overlap 0 (pre.map fun i => s.parts[i])))] false, O.tok 45 11 (asmKids f s.overlap p 0 (pre.map fun i => s.parts[i])).length]) ?_ 11 (fun _ => rfl) (by simp) ?_ ?_
      · intro x' W y
        simp only [CV, RdC, encI]
        exact ⟨trivial, wf_len (by have := y.isLt; unfold maxLen; omega)⟩
      · simp [asmKids, maxW, Box.rows, bot, lstC, zboxC]
      · rintro lp pre ⟨i, hi⟩ hN
        simp only [List.map_append, List.map_cons, List.map_nil, kids_snoc, bot_snoc, List.set_cons_zero, List.set_cons_succ]
        obtain ⟨L, hL⟩ : ∃ L, (pre.map fun i => s.parts[i]) = L := ⟨_, rfl⟩
        have hLl : L.length < 8000 := by rw [← hL, List.length_map]; omega
        have hLm : ∀ q ∈ L, q ∈ s.parts := by
          intro q hq
          rw [← hL] at hq
          obtain ⟨j, _, rfl⟩ := List.mem_map.1 hq
          exact List.getElem_mem j.isLt
        have hbb := bot_bound f s.overlap 40000 L 0 (fun q hq => by
          have h1 := g6 q (hLm q hq)
          have hsm := pick_small hv q.name
          unfold Glyph.Small at hsm
          unfold Glyph.height at h1 ⊢
          omega)
        rw [hL]
        obtain ⟨b, hb⟩ : ∃ b, bot f s.overlap 0 L = b := ⟨_, rfl⟩
        have hkl : (asmKids f s.overlap p 0 L).length = L.length := kids_len _ _ _ _ _
        obtain ⟨kids, hkids⟩ : ∃ l, asmKids f s.overlap p 0 L = l := ⟨_, rfl⟩
        rw [hb] at hbb
        rw [hkids] at hkl
        simp only [hb, hkids]
        obtain ⟨q, hq⟩ : ∃ q, s.parts[i] = q := ⟨_, rfl⟩
        have hmem : q ∈ s.parts := hq ▸ List.getElem_mem hi
        have hg6 := g6 q hmem
        have hbx := bxs_get (f := f) (p := p) hi
        have hht := hts_get (f := f) hi
        have hwid := width_b hv hp1 hp2 q.name
        rw [hq] at hbx hht
        have hfi : s.parts[(⟨i, hi⟩ : Fin s.parts.length)] = q := hq
        simp only [hfi]
        have hPB : pieceBox f p b q = { (sizedR f q.name p).1 with y := scale b p + (sizedR f q.name p).1.d } := rfl
        obtain ⟨B, hB⟩ : ∃ B, (sizedR f q.name p).1 = B := ⟨_, rfl⟩
        rw [hB] at hbx hwid hPB
        obtain ⟨bk, bn, bs, bw, bh, bd, bx, by_, bkids, bo, bsrc⟩ := B
        simp only [Box.row] at hbx hwid hPB
        have hsm := pick_small hv q.name
        unfold Glyph.Small at hsm
        obtain ⟨g, hg⟩ : ∃ g, f.pick q.name = g := ⟨_, rfl⟩
        rw [hg] at hsm hg6 hht
        simp only [hPB, hg]
        have hgh : g.height = g.h + g.d := rfl
        have wov : IntKind.i64.wrap (g.height - s.overlap) = g.height - s.overlap := wrap_i64 (by omega) (by omega)
        have wb : IntKind.i64.wrap (b + (g.height - s.overlap)) = b + (g.height - s.overlap) := wrap_i64 (by omega) (by omega)
        have hsb := scale_lb (n := b) (p := p) (by omega) (by omega) (by omega) (by omega)
        have hwy : IntKind.i64.wrap (scale b p + bd) = scale b p + bd := wrap_i64 (by omega) (by omega)
        have hl1 : kids.length + 1 ≤ maxLen := by unfold maxLen; omega
        have hl2 : (kids.length + 1) * 128 ≤ 140737488355328 := by omega
        have hrow : Box.rows (kids ++ [⟨bk, bn, bs, bw, bh, bd, bx, scale b p + bd, bkids, bo, bsrc⟩]) = Box.rows kids ++ [[.int .i64 bk, .str bn, .int .i64 bs, .int .i64 bw, .int .i64 bh, .int .i64 bd, .int .i64 bx, .int .i64 (scale b p + bd), .sl (Box.rows bkids), .int .i64 bo, intsC bsrc]] := by rw [rows_snoc]; rfl
        have hmw : maxW wl (kids ++ [⟨bk, bn, bs, bw, bh, bd, bx, scale b p + bd, bkids, bo, bsrc⟩]) = if maxW wl kids < bw then bw else maxW wl kids := by rw [maxW_snoc]; rfl
        repeat (first
         | (with_reducible first | refine AW.seq ?_ | refine AW.block ?_ | refine aThen_n ?_ | refine aBlk_n ?_ | refine AW.ret ?_ | refine aThen_r ?_ | refine aBlk_r ?_ | refine aops_done ?_ | refine AW.skip ?_ | refine AW.exit ?_ | refine aThen_e ?_ | refine aBlk_hit ?_ | refine AW.label ?_ | refine AW.scope ?_ | refine aNg_n ?_ | refine aNg_r ?_ | refine aNg_e ?_)
         | ((with_reducible refine AW.region ?_); with_reducible refine aops_run (by simp [List.replicate_succ, hi, hbx, lstC]; first | exact rfl | exact ⟨rfl, rfl⟩) ?_)
         | ((with_reducible refine AW.draw mixedP ?_ ?_); (focus first | exact .inl rfl | exact .inr (by decide)); with_reducible refine adraw_go (by simp [List.replicate_succ, hi, hbx, lstC]; first | exact rfl | exact ⟨rfl, rfl, rfl⟩) ?_)
         | (with_reducible refine adraw_done (by kernel_rfl) ?_)
         | ((with_reducible refine aBlk_miss ?_ ?_); focus decide)
         | ((with_reducible refine cond_t ?_ ?_); focus (simp [ev, hi, hbx, lstC]; done))
         | ((with_reducible refine cond_f ?_ ?_); focus (simp [ev, hi, hbx, lstC]; done)))
        (with_reducible first | refine aops_c (scale_a b p) Try.func74 (by kernel_rfl) (by kernel_rfl) ?_ ?_ ?_ | refine adraw_c (scale_a b p) Try.func74 (by kernel_rfl) (by kernel_rfl) ?_ ?_ ?_)
        focus (simp [gate, hwy]; done)
        focus (simp [pubCall, hwy]; done)
        first | (with_reducible refine aops_run (by simp [List.replicate_succ, hwy]; first | exact rfl | exact ⟨rfl, rfl⟩) ?_) | (with_reducible refine adraw_go (by simp [List.replicate_succ, hwy]; first | exact rfl | exact ⟨rfl, rfl, rfl⟩) ?_)
        repeat (first
         | (with_reducible first | refine AW.seq ?_ | refine AW.block ?_ | refine aThen_n ?_ | refine aBlk_n ?_ | refine AW.ret ?_ | refine aThen_r ?_ | refine aBlk_r ?_ | refine aops_done ?_ | refine AW.skip ?_ | refine AW.exit ?_ | refine aThen_e ?_ | refine aBlk_hit ?_ | refine AW.label ?_ | refine AW.scope ?_ | refine aNg_n ?_ | refine aNg_r ?_ | refine aNg_e ?_)
         | ((with_reducible refine AW.region ?_); with_reducible refine aops_run (by simp [List.replicate_succ, lstC]; first | exact rfl | exact ⟨rfl, rfl⟩) ?_)
         | ((with_reducible refine AW.draw mixedP ?_ ?_); (focus first | exact .inl rfl | exact .inr (by decide)); with_reducible refine adraw_go (by simp [List.replicate_succ, lstC]; first | exact rfl | exact ⟨rfl, rfl, rfl⟩) ?_)
         | (with_reducible refine adraw_done (by kernel_rfl) ?_)
         | ((with_reducible refine aBlk_miss ?_ ?_); focus decide)
         | ((with_reducible refine cond_t ?_ ?_); focus (simp [ev, lstC]; done))
         | ((with_reducible refine cond_f ?_ ?_); focus (simp [ev, lstC]; done)))
        have hl1' : (Box.rows kids).length + 1 ≤ maxLen := by rw [rows_len]; exact hl1
        have hl2' : ((Box.rows kids).length + 1) * 128 ≤ 140737488355328 := by rw [rows_len]; exact hl2
        refine AW.drawS mixedP (.inr (by decide)) ?_
        refine TW.take 5 (adraw_go (by simp [List.replicate_succ]; exact ⟨rfl, rfl⟩) (adraw_nil ?_))
        simp only [List.drop_succ_cons, List.drop_zero]
        refine TW.op ⟨.hot 10 11 (Box.rows kids), some (10, .hot 45 11 ((Box.rows kids).length + 1) (zrowC.map V.c)), some 10⟩ rfl (by intro k ob h; cases h; simp) ?_ ?_
        · intro S0 w0 x a w H g hop hrk
          have hY : CV x w (.gr 10 11 (Box.rows kids)) (a.eval (.tmp 93)) := hop (.tmp 93) (by simp [Op.operands, Call.operands])
          have hZ : CV x w (.full [zrowC]) (a.eval (.tmp 96)) := hop (.tmp 96) (by simp [Op.operands, Call.operands])
          simp only [CV] at hZ
          obtain ⟨_, _, hZ⟩ := hZ
          exact ok_append_hot g rfl tye_42 hY hZ (by omega) rfl hl1' hl2' (by rw [hrk 10 rfl, rows_len]; rfl)
        simp only [St.step, St.put, updH, List.length_cons, List.length_nil, Nat.reduceAdd, Nat.reduceLT, if_true, List.set_cons_zero, List.set_cons_succ, List.nil_append, List.cons_append]
        refine TW.op ⟨.hp 10 ((Box.rows kids).length + 1) ((Box.rows kids).length * 11), none, some 10⟩ rfl (by intro k ob h; cases h) ?_ ?_
        · intro S0 w0 x a w H g hop hrk
          have hY : CV x w (.hot 10 11 (Box.rows kids)) (a.eval (.tmp 97)) := hop (.tmp 97) (by simp [Op.operands])
          have hZ : CV x w (.c (.int .i64 (kids.length : Int))) (a.eval (.tmp 95)) := hop (.tmp 95) (by simp [Op.operands])
          exact ok_index_hot g rfl hY (by rw [rows_len]; exact hZ) tye_42 (hrk 10 rfl)
        simp only [St.step, St.put, updH, List.length_cons, List.length_nil, Nat.reduceAdd, Nat.reduceLT, if_true, List.set_cons_zero, List.set_cons_succ, List.nil_append, List.cons_append]
        refine TW.op ⟨.any, some (10, .hot 45 11 ((Box.rows kids).length + 1) [.c (.int .i64 bk), .c (.str bn), .c (.int .i64 bs), .c (.int .i64 bw), .c (.int .i64 bh), .c (.int .i64 bd), .c (.int .i64 bx), .c (.int .i64 (scale b p + bd)), .c (.sl (Box.rows bkids)), .c (.int .i64 bo), .c (intsC bsrc)]), some 10⟩ rfl (by intro k ob h; cases h; simp) ?_ ?_
        · intro S0 w0 x a w H g hop hrk
          have hY : CV x w (.hp 10 ((Box.rows kids).length + 1) ((Box.rows kids).length * 11)) (a.eval (.tmp 98)) := hop (.tmp 98) (by simp [Op.operands])
          have hZ := hop (.tmp 94) (by simp [Op.operands])
          exact ok_store_hot g (q := (true, 11)) rfl ty1_45 hY hZ (hrk 10 rfl) rfl rfl rfl rfl
        simp only [St.step, St.put, updH, List.length_cons, List.length_nil, Nat.reduceAdd, Nat.reduceLT, if_true, List.set_cons_zero, List.set_cons_succ, List.nil_append, List.cons_append]
        refine TW.take 2 (adraw_go (by simp [List.replicate_succ]; exact ⟨rfl, rfl⟩) (adraw_nil (TW.nil ⟨by kernel_rfl, ?_⟩)))
        refine aThen_n ?_
        refine AW.le (Le.cool 10 (ty := 45) (es := 11) (n := kids.length) (cs := List.map V.c [.int .i64 bk, .str bn, .int .i64 bs, .int .i64 bw, .int .i64 bh, .int .i64 bd, .int .i64 bx, .int .i64 (scale b p + bd), .sl (Box.rows bkids), .int .i64 bo, intsC bsrc]) (row := [.int .i64 bk, .str bn, .int .i64 bs, .int .i64 bw, .int .i64 bh, .int .i64 bd, .int .i64 bx, .int .i64 (scale b p + bd), .sl (Box.rows bkids), .int .i64 bo, intsC bsrc]) rfl (toCs_map _) ?_) ?_
        · intro j ty es cur cs h
          iterate 10 (rcases j with _ | j; · simp at h)
          rcases j with _ | j
          · rfl
          rcases j with _ | j
          · simp at h
          · simp at h
        simp only [List.map_cons, List.map_nil, V.cool, O.cool, rows_len, and_self, if_true, bxC_cool, htC_cool, vs_cool, zboxC]
        repeat (first
         | (with_reducible first | refine AW.seq ?_ | refine AW.block ?_ | refine aThen_n ?_ | refine aBlk_n ?_ | refine AW.ret ?_ | refine aThen_r ?_ | refine aBlk_r ?_ | refine aops_done ?_ | refine AW.skip ?_ | refine AW.exit ?_ | refine aThen_e ?_ | refine aBlk_hit ?_ | refine AW.label ?_ | refine AW.scope ?_ | refine aNg_n ?_ | refine aNg_r ?_ | refine aNg_e ?_)
         | ((with_reducible refine AW.region ?_); with_reducible refine aops_run (by simp [List.replicate_succ, hi, hht, wov, wb]; first | exact rfl | exact ⟨rfl, rfl⟩) ?_)
         | ((with_reducible refine AW.draw mixedP ?_ ?_); (focus first | exact .inl rfl | exact .inr (by decide)); with_reducible refine adraw_go (by simp [List.replicate_succ, hi, hht, wov, wb]; first | exact rfl | exact ⟨rfl, rfl, rfl⟩) ?_)
         | (with_reducible refine adraw_done (by kernel_rfl) ?_)
         | ((with_reducible refine aBlk_miss ?_ ?_); focus decide)
         | ((with_reducible refine cond_t ?_ ?_); focus (simp [ev, hi, hht, wov, wb]; done))
         | ((with_reducible refine cond_f ?_ ?_); focus (simp [ev, hi, hht, wov, wb]; done)))
        refine ⟨rfl, _, Le.hide 11 (Nat.le_of_ble_eq_true rfl) ?_ ?_⟩
        · simp [hrow, hmw, lstC, zboxC]
        · simp [O.bnd, V.bnds, V.bnd, lstC, zboxC, bxC_bnd, htC_bnd]
      · rintro xs rfl
        rw [whole_map]
        obtain ⟨kids, hkids⟩ : ∃ l, asmKids f s.overlap p 0 (piecesL r s.parts) = l := ⟨_, rfl⟩
        have hmx : maxW wl kids = maxW 0 kids := by
          obtain ⟨pt, hpt, e⟩ := w3
          obtain ⟨b, hb, e2⟩ := kids_w f s.overlap p (piecesL r s.parts) 0 pt (mem_pieces hr1 hpt)
          rw [hkids] at hb
          exact maxW_from kids wl 0 w1 (.inr ⟨b, hb, by omega⟩)
        have hR : boxEV (asmBox f s r p, 0) = .tup [.agg [.c (.int .i64 3), .c (.str ⟨#[]⟩), .c (.int .i64 0), .c (.int .i64 (maxW 0 kids)), .c (.int .i64 (scale T p)), .c (.int .i64 0), .c (.int .i64 0), .c (.int .i64 0), .c (.sl (Box.rows kids)), .c (.int .i64 0), .c (.sl [])], .c (.int .i64 0)] := by
          unfold boxEV boxV asmBox
          rw [hkids, hT]
          rfl
        rw [hR]
        simp only [hkids, hmx]
        repeat (first
         | (with_reducible first | refine AW.seq ?_ | refine AW.block ?_ | refine aThen_n ?_ | refine aBlk_n ?_ | refine AW.ret ?_ | refine aThen_r ?_ | refine aBlk_r ?_ | refine aops_done ?_ | refine AW.skip ?_ | refine AW.exit ?_ | refine aThen_e ?_ | refine aBlk_hit ?_ | refine AW.label ?_ | refine AW.scope ?_ | refine aNg_n ?_ | refine aNg_r ?_ | refine aNg_e ?_)
         | ((with_reducible refine AW.region ?_); with_reducible refine aops_run (by simp [List.replicate_succ, lstC, zboxC]; first | exact rfl | exact ⟨rfl, rfl⟩) ?_)
         | ((with_reducible refine AW.draw mixedP ?_ ?_); (focus first | exact .inl rfl | exact .inr (by decide)); with_reducible refine adraw_go (by simp [List.replicate_succ, lstC, zboxC]; first | exact rfl | exact ⟨rfl, rfl, rfl⟩) ?_)
         | (with_reducible refine adraw_done (by kernel_rfl) ?_)
         | ((with_reducible refine aBlk_miss ?_ ?_); focus decide)
         | ((with_reducible refine cond_t ?_ ?_); focus (simp [ev, lstC, zboxC]; done))
         | ((with_reducible refine cond_f ?_ ?_); focus (simp [ev, lstC, zboxC]; done)))
        simp [aRet, ares, aresL, ares1, V.pub, V.pubs, ldV, Try.results110]
end Go.Proofs.Ythbcljjpmdfflaa
