/-
  Layer 6's reference on the abstract machine: assembly, Box, Find.
-/
import Derived.Test.YthbcljjpmdfflaaVb
namespace Go.Proofs.Ythbcljjpmdfflaa
open Go.RowKit
set_option linter.unusedSimpArgs false
set_option linter.unusedVariables false
set_option maxRecDepth 100000

theorem maxW_snoc : ∀ (l : List Box) (m : Int) (b : Box), maxW m (l ++ [b]) = mx (maxW m l) b.w
  | [], m, b => rfl
  | x :: l, m, b => by simp only [List.cons_append, maxW]; exact maxW_snoc l _ b
theorem rows_snoc : ∀ (l : List Box) (b : Box), Box.rows (l ++ [b]) = Box.rows l ++ [b.row]
  | [], b => rfl
  | x :: l, b => by simp only [List.cons_append, Box.rows]; rw [rows_snoc l b]
@[simp] theorem rows_len : ∀ (l : List Box), (Box.rows l).length = l.length
  | [] => rfl
  | x :: l => by simp only [Box.rows, List.length_cons]; rw [rows_len l]
theorem pieces_len {r : Int} (h1 : 1 ≤ r) (h2 : r ≤ 1000) : ∀ l : List Part, (piecesL r l).length ≤ 1000 * l.length
  | [] => by simp [piecesL]
  | q :: l => by
    have := pieces_len h1 h2 l
    obtain ⟨t1, t2⟩ := times_bound h1 h2 q
    simp only [piecesL, List.length_append, List.length_replicate, List.length_cons]
    omega
theorem scale_lb {n p : Int} (h1 : 0 ≤ n) (h2 : n ≤ 1000000000) (h3 : 0 ≤ p) (h4 : p ≤ 100) : 0 ≤ scale n p ∧ scale n p ≤ 1000000001 := by
  have hm : 0 ≤ n * p := Int.mul_nonneg h1 h3
  have hm2 : n * p ≤ n * 100 := Int.mul_le_mul_of_nonneg_left h4 h1
  rw [← rnd_scale (by omega) (by omega) h3 (by omega)]
  unfold rnd
  rw [if_pos hm]
  omega
/-- the machine's box of a list under way -/
def lstC (w h : Int) (kids : V) : List V := [.c (.int .i64 3), .c (.str ⟨#[]⟩), .c (.int .i64 0), .c (.int .i64 w), .c (.int .i64 h), .c (.int .i64 0), .c (.int .i64 0), .c (.int .i64 0), kids, .c (.int .i64 0), .full []]
def zboxC : List V := [.c (.int .i64 0), .c (.str ⟨#[]⟩), .c (.int .i64 0), .c (.int .i64 0), .c (.int .i64 0), .c (.int .i64 0), .c (.int .i64 0), .c (.int .i64 0), .full [], .c (.int .i64 0), .full []]

set_option maxHeartbeats 3200000 in
theorem rasm_a (f : Font) (s : Stretch) (r p : Int) (hf : f.Fit) (hv : f.valid = true) (hs : s ∈ f.stretches) (hr1 : 1 ≤ r) (hr2 : r ≤ 1000) (hp1 : 1 ≤ p) (hp2 : p ≤ 100) (hp : s.parts ≠ []) : AC Try.prog 69 [.agg f.vs, stretchV s, .c (.int .i64 r), .c (.int .i64 p)] (boxV (asmBox f s r p)) := by
  obtain ⟨_, _, g3, g4, g5, g6⟩ := good_of hv hs
  have hfound := parts_found hv hs
  have hok := valid_glyphs hv
  have hpl : 0 < s.parts.length := List.length_pos_iff.2 hp
  obtain ⟨tb1, tb2⟩ := tallI_bound hv hs hr1 hr2
  have htot := pieces_len hr1 hr2 s.parts
  have hR : boxV (asmBox f s r p) = .agg [.c (.int .i64 3), .c (.str ⟨#[]⟩), .c (.int .i64 0), .c (.int .i64 (maxW 0 (asmKids f s.overlap p 0 (piecesL r s.parts)))), .c (.int .i64 (scale (tallI f s r) p)), .c (.int .i64 0), .c (.int .i64 0), .c (.int .i64 0), .c (.sl (Box.rows (asmKids f s.overlap p 0 (piecesL r s.parts)))), .c (.int .i64 0), .c (.sl [])] := by simp [boxV, asmBox, Box.row, intsC]
  rw [hR]
  clear hR
  obtain ⟨ALL, hALL⟩ : ∃ l, asmKids f s.overlap p 0 (piecesL r s.parts) = l := ⟨_, rfl⟩
  rw [hALL]
  have hTA := rTall_a f s r hf hv hs hr1 hr2 hp
  obtain ⟨T, hT⟩ : ∃ T, tallI f s r = T := ⟨_, rfl⟩
  rw [hT] at hTA tb1 tb2 ⊢
  unfold stretchV at hTA ⊢
  refine AC.intro Try.func69 rfl ?_
  simp only [Try.ntmps69, List.map_cons, List.map_nil, List.length_cons, List.length_nil, Nat.reduceAdd, Nat.reduceSub, List.replicate_succ, List.replicate_zero, List.cons_append, List.nil_append, Stretch.row]
  repeat (first
   | (with_reducible first | refine AW.seq ?_ | refine AW.block ?_ | refine aThen_n ?_ | refine aBlk_n ?_ | refine AW.ret ?_ | refine aThen_r ?_ | refine aBlk_r ?_ | refine aops_done ?_ | refine AW.skip ?_ | refine AW.exit ?_ | refine aThen_e ?_ | refine aBlk_hit ?_ | refine AW.label ?_ | refine AW.scope ?_ | refine aNg_n ?_ | refine aNg_r ?_ | refine aNg_e ?_)
   | ((with_reducible refine AW.region ?_); with_reducible refine aops_run (by simp [List.replicate_succ]; first | exact rfl | exact ⟨rfl, rfl⟩) ?_)
   | ((with_reducible refine AW.draw mixedP ?_ ?_); (focus first | exact .inl rfl | exact .inr (by decide)); with_reducible refine adraw_go (by simp [List.replicate_succ]; first | exact rfl | exact ⟨rfl, rfl, rfl⟩) ?_)
   | (with_reducible refine adraw_done (by kernel_rfl) ?_)
   | ((with_reducible refine aBlk_miss ?_ ?_); focus decide)
   | ((with_reducible refine cond_t ?_ ?_); focus (simp [ev]; done))
   | ((with_reducible refine cond_f ?_ ?_); focus (simp [ev]; done)))
  (with_reducible first | refine aops_c (hTA) Try.func65 (by kernel_rfl) (by kernel_rfl) ?_ ?_ ?_ | refine adraw_c (hTA) Try.func65 (by kernel_rfl) (by kernel_rfl) ?_ ?_ ?_)
  focus (simp [gate, Stretch.row]; done)
  focus (simp [pubCall, Stretch.row]; done)
  first | (with_reducible refine aops_run (by simp [List.replicate_succ, Stretch.row]; first | exact rfl | exact ⟨rfl, rfl⟩) ?_) | (with_reducible refine adraw_go (by simp [List.replicate_succ, Stretch.row]; first | exact rfl | exact ⟨rfl, rfl, rfl⟩) ?_)
  (with_reducible first | refine aops_c (rscale_l (n := T) (p := p) (by omega) (by omega) (by omega) (by omega)) Try.func64 (by kernel_rfl) (by kernel_rfl) ?_ ?_ ?_ | refine adraw_c (rscale_l (n := T) (p := p) (by omega) (by omega) (by omega) (by omega)) Try.func64 (by kernel_rfl) (by kernel_rfl) ?_ ?_ ?_)
  focus (simp [gate]; done)
  focus (simp [pubCall]; done)
  first | (with_reducible refine aops_run (by simp [List.replicate_succ]; first | exact rfl | exact ⟨rfl, rfl⟩) ?_) | (with_reducible refine adraw_go (by simp [List.replicate_succ]; first | exact rfl | exact ⟨rfl, rfl, rfl⟩) ?_)
  repeat (first
   | (with_reducible first | refine AW.seq ?_ | refine AW.block ?_ | refine aThen_n ?_ | refine aBlk_n ?_ | refine AW.ret ?_ | refine aThen_r ?_ | refine aBlk_r ?_ | refine aops_done ?_ | refine AW.skip ?_ | refine AW.exit ?_ | refine aThen_e ?_ | refine aBlk_hit ?_ | refine AW.label ?_ | refine AW.scope ?_ | refine aNg_n ?_ | refine aNg_r ?_ | refine aNg_e ?_)
   | ((with_reducible refine AW.region ?_); with_reducible refine aops_run (by simp [List.replicate_succ]; first | exact rfl | exact ⟨rfl, rfl⟩) ?_)
   | ((with_reducible refine AW.draw mixedP ?_ ?_); (focus first | exact .inl rfl | exact .inr (by decide)); with_reducible refine adraw_go (by simp [List.replicate_succ]; first | exact rfl | exact ⟨rfl, rfl, rfl⟩) ?_)
   | (with_reducible refine adraw_done (by kernel_rfl) ?_)
   | ((with_reducible refine aBlk_miss ?_ ?_); focus decide)
   | ((with_reducible refine cond_t ?_ ?_); focus (simp [ev]; done))
   | ((with_reducible refine cond_f ?_ ?_); focus (simp [ev]; done)))
  refine AW.le (Le.tokCell 3 8 45 11 rfl rfl) ?_
  simp only [List.length_cons, List.length_nil, Nat.reduceAdd, List.set_cons_zero, List.set_cons_succ, List.cons_append, List.nil_append]
  refine AW.loopH (ι := { q : Nat × Int × List Box // q.1 ≤ s.parts.length ∧ ALL = q.2.2 ++ asmKids f s.overlap p q.2.1 (piecesL r (s.parts.drop q.1)) ∧ 0 ≤ q.2.1 ∧ q.2.1 ≤ 40000 * (q.2.2.length : Int) ∧ q.2.2.length + (piecesL r (s.parts.drop q.1)).length ≤ 8000 }) (fun q => [(11, .c (.int .i64 (q.1.1 : Int))), (10, .c (.int .i64 q.1.2.1))]) (fun q => [.box 27 f.vs false, .box 59 (s.row.map V.c) false, .box 45 zboxC false, .box 45 (lstC (maxW 0 q.1.2.2) (scale T p) (.gr 4 11 (Box.rows q.1.2.2))) false, .tok 45 11 q.1.2.2.length]) (fun q => s.parts.length - q.1.1) ⟨(0, 0, []), by simp [hALL]; omega⟩ _ (by simp only [wr, wrOps, List.cons_append, List.nil_append, List.append_nil, List.append_assoc]; exact rfl) _ (by simp only [havoc, List.foldl_cons, List.foldl_nil, List.set_cons_zero, List.set_cons_succ]; exact rfl) ?_ ?_
  all_goals simp only [puts, List.foldl_cons, List.foldl_nil, List.set_cons_zero, List.set_cons_succ]
  · refine Le.weak (by simp [subT, Stretch.row, zboxC, lstC, maxW, Box.rows])
  · rintro ⟨⟨k, b, kids⟩, hk, hI, b1, b2, b3⟩
    simp only at hk hI b1 b2 b3 ⊢
    by_cases hlt : k < s.parts.length
    · obtain ⟨q, hq⟩ : ∃ q, s.parts[k] = q := ⟨_, rfl⟩
      have hmem : q ∈ s.parts := hq ▸ List.getElem_mem hlt
      have hg6 := g6 q hmem
      obtain ⟨g, hg⟩ := hfound q hmem
      obtain ⟨e1, e2, e3⟩ := height_small hok hg
      have hpk := pick_found hg
      rw [hpk] at hg6
      rw [List.drop_eq_getElem_cons hlt, hq] at hI b3
      simp only [piecesL, List.length_append, List.length_replicate] at hI b3
      obtain ⟨t1, t2⟩ := times_bound hr1 hr2 q
      have hw : IntKind.i64.wrap ((k : Int) + 1) = ((k + 1 : Nat) : Int) := by rw [wrap_i64 (by omega) (by omega)]; simp
      have hc := rsize_a f q.name p hf.gl
      have hB0 : ∃ B, (sizedR f q.name p).1 = B ∧ -200000 ≤ B.d ∧ B.d ≤ 200000 := by
        refine ⟨_, rfl, ?_⟩
        rw [(sizedR_eq hv hp1 hp2 q.name).1]
        have := scaled_b hv hp1 hp2 q.name
        simp only [glyphBox]
        omega
      obtain ⟨⟨bk, bn, bs, bw, bh, bd, bx, by_, bkids, bo, bsrc⟩, hB, bd1, bd2⟩ := hB0
      have hPB : ∀ z, pieceBox f p z q = ⟨bk, bn, bs, bw, bh, bd, bx, scale z p + bd, bkids, bo, bsrc⟩ := by intro z; simp only [pieceBox, hB]
      rw [hB] at hc
      simp only [boxV, Box.row, List.map_cons, List.map_nil] at hc bd1 bd2
      have wov : IntKind.i64.wrap (g.height - s.overlap) = g.height - s.overlap := wrap_i64 (by omega) (by omega)
      cases hx : q.ext with
      | true =>
        have ht : times r q = r := by simp [times, hx]
        rw [ht] at hI b3 t1 t2
        repeat (first
         | (with_reducible first | refine AW.seq ?_ | refine AW.block ?_ | refine aThen_n ?_ | refine aBlk_n ?_ | refine AW.ret ?_ | refine aThen_r ?_ | refine aBlk_r ?_ | refine aops_done ?_ | refine AW.skip ?_ | refine AW.exit ?_ | refine aThen_e ?_ | refine aBlk_hit ?_ | refine AW.label ?_ | refine AW.scope ?_ | refine aNg_n ?_ | refine aNg_r ?_ | refine aNg_e ?_)
         | ((with_reducible refine AW.region ?_); with_reducible refine aops_run (by simp [List.replicate_succ, hlt, hq, Stretch.row, partsC, Part.row, hx]; first | exact rfl | exact ⟨rfl, rfl⟩) ?_)
         | ((with_reducible refine AW.draw mixedP ?_ ?_); (focus first | exact .inl rfl | exact .inr (by decide)); with_reducible refine adraw_go (by simp [List.replicate_succ, hlt, hq, Stretch.row, partsC, Part.row, hx]; first | exact rfl | exact ⟨rfl, rfl, rfl⟩) ?_)
         | (with_reducible refine adraw_done (by kernel_rfl) ?_)
         | ((with_reducible refine aBlk_miss ?_ ?_); focus decide)
         | ((with_reducible refine cond_t ?_ ?_); focus (simp [ev, hlt, hq, Stretch.row, partsC, Part.row, hx]; done))
         | ((with_reducible refine cond_f ?_ ?_); focus (simp [ev, hlt, hq, Stretch.row, partsC, Part.row, hx]; done)))
        (with_reducible first | refine aops_c (rfind_a f q.name hf.gl) Try.func106 (by kernel_rfl) (by kernel_rfl) ?_ ?_ ?_ | refine adraw_c (rfind_a f q.name hf.gl) Try.func106 (by kernel_rfl) (by kernel_rfl) ?_ ?_ ?_)
        focus (simp [gate, foundV, hg, Glyph.row]; done)
        focus (simp [pubCall, foundV, hg, Glyph.row]; done)
        first | (with_reducible refine aops_run (by simp [List.replicate_succ, foundV, hg, Glyph.row]; first | exact rfl | exact ⟨rfl, rfl⟩) ?_) | (with_reducible refine adraw_go (by simp [List.replicate_succ, foundV, hg, Glyph.row]; first | exact rfl | exact ⟨rfl, rfl, rfl⟩) ?_)
        repeat (first
         | (with_reducible first | refine AW.seq ?_ | refine AW.block ?_ | refine aThen_n ?_ | refine aBlk_n ?_ | refine AW.ret ?_ | refine aThen_r ?_ | refine aBlk_r ?_ | refine aops_done ?_ | refine AW.skip ?_ | refine AW.exit ?_ | refine aThen_e ?_ | refine aBlk_hit ?_ | refine AW.label ?_ | refine AW.scope ?_ | refine aNg_n ?_ | refine aNg_r ?_ | refine aNg_e ?_)
         | ((with_reducible refine AW.region ?_); with_reducible refine aops_run (by simp [List.replicate_succ]; first | exact rfl | exact ⟨rfl, rfl⟩) ?_)
         | ((with_reducible refine AW.draw mixedP ?_ ?_); (focus first | exact .inl rfl | exact .inr (by decide)); with_reducible refine adraw_go (by simp [List.replicate_succ]; first | exact rfl | exact ⟨rfl, rfl, rfl⟩) ?_)
         | (with_reducible refine adraw_done (by kernel_rfl) ?_)
         | ((with_reducible refine aBlk_miss ?_ ?_); focus decide)
         | ((with_reducible refine cond_t ?_ ?_); focus (simp [ev]; done))
         | ((with_reducible refine cond_f ?_ ?_); focus (simp [ev]; done)))
        refine AW.loopH (ι := { x : Int × Int × List Box // 0 ≤ x.1 ∧ x.1 ≤ r ∧ ALL = x.2.2 ++ asmKids f s.overlap p x.2.1 (List.replicate (r - x.1).toNat q ++ piecesL r (s.parts.drop (k + 1))) ∧ 0 ≤ x.2.1 ∧ x.2.1 ≤ 40000 * (x.2.2.length : Int) ∧ x.2.2.length + ((r - x.1).toNat + (piecesL r (s.parts.drop (k + 1))).length) ≤ 8000 }) (fun x => [(15, .c (.int .i64 x.1.1)), (10, .c (.int .i64 x.1.2.1))]) (fun x => [.box 27 f.vs false, .box 59 (s.row.map V.c) false, .box 45 zboxC false, .box 45 (lstC (maxW 0 x.1.2.2) (scale T p) (.gr 4 11 (Box.rows x.1.2.2))) false, .tok 45 11 x.1.2.2.length, .box 102 (g.row.map V.c) false]) (fun x => (r - x.1.1).toNat) ⟨(0, b, kids), by simp only [Int.sub_zero]; exact ⟨by omega, by omega, hI, b1, b2, b3⟩⟩ _ (by simp only [wr, wrOps, List.cons_append, List.nil_append, List.append_nil, List.append_assoc]; exact rfl) _ (by simp only [havoc, List.foldl_cons, List.foldl_nil, List.set_cons_zero, List.set_cons_succ]; exact rfl) ?_ ?_
        all_goals simp only [puts, List.foldl_cons, List.foldl_nil, List.set_cons_zero, List.set_cons_succ]
        · refine Le.weak (by simp [subT, Stretch.row, Glyph.row])
        · clear hI b1 b2 b3
          rintro ⟨⟨j, b, kids⟩, j1, j2, hI, b1, b2, b3⟩
          simp only at j1 j2 hI b1 b2 b3 ⊢
          by_cases hj : j < r
          · have hd : (r - j).toNat = (r - (j + 1)).toNat + 1 := by omega
            rw [hd] at hI b3
            simp only [List.replicate_succ, List.cons_append, asmKids, hPB, hpk] at hI
            have hsb := scale_lb (n := b) (p := p) (by omega) (by omega) (by omega) (by omega)
            have hwj : IntKind.i64.wrap (j + 1) = j + 1 := wrap_i64 (by omega) (by omega)
            have hwy : IntKind.i64.wrap (scale b p + bd) = scale b p + bd := wrap_i64 (by omega) (by omega)
            have hwb : IntKind.i64.wrap (b + (g.height - s.overlap)) = b + (g.height - s.overlap) := wrap_i64 (by omega) (by omega)
            have hl1 : kids.length + 1 ≤ maxLen := by unfold maxLen; omega
            have hl2 : (kids.length + 1) * 128 ≤ 140737488355328 := by omega
            have hrow : Box.rows (kids ++ [⟨bk, bn, bs, bw, bh, bd, bx, scale b p + bd, bkids, bo, bsrc⟩]) = Box.rows kids ++ [[.int .i64 bk, .str bn, .int .i64 bs, .int .i64 bw, .int .i64 bh, .int .i64 bd, .int .i64 bx, .int .i64 (scale b p + bd), .sl (Box.rows bkids), .int .i64 bo, intsC bsrc]] := by rw [rows_snoc]; rfl
            have hmw : maxW 0 (kids ++ [⟨bk, bn, bs, bw, bh, bd, bx, scale b p + bd, bkids, bo, bsrc⟩]) = if maxW 0 kids < bw then bw else maxW 0 kids := by rw [maxW_snoc]; rfl
            repeat (first
             | (with_reducible first | refine AW.seq ?_ | refine AW.block ?_ | refine aThen_n ?_ | refine aBlk_n ?_ | refine AW.ret ?_ | refine aThen_r ?_ | refine aBlk_r ?_ | refine aops_done ?_ | refine AW.skip ?_ | refine AW.exit ?_ | refine aThen_e ?_ | refine aBlk_hit ?_ | refine AW.label ?_ | refine AW.scope ?_ | refine aNg_n ?_ | refine aNg_r ?_ | refine aNg_e ?_)
             | ((with_reducible refine AW.region ?_); with_reducible refine aops_run (by simp [List.replicate_succ, hj, hlt, hq, Stretch.row, partsC, Part.row]; first | exact rfl | exact ⟨rfl, rfl⟩) ?_)
             | ((with_reducible refine AW.draw mixedP ?_ ?_); (focus first | exact .inl rfl | exact .inr (by decide)); with_reducible refine adraw_go (by simp [List.replicate_succ, hj, hlt, hq, Stretch.row, partsC, Part.row]; first | exact rfl | exact ⟨rfl, rfl, rfl⟩) ?_)
             | (with_reducible refine adraw_done (by kernel_rfl) ?_)
             | ((with_reducible refine aBlk_miss ?_ ?_); focus decide)
             | ((with_reducible refine cond_t ?_ ?_); focus (simp [ev, hj, hlt, hq, Stretch.row, partsC, Part.row]; done))
             | ((with_reducible refine cond_f ?_ ?_); focus (simp [ev, hj, hlt, hq, Stretch.row, partsC, Part.row]; done)))
            (with_reducible first | refine aops_c (hc) Try.func68 (by kernel_rfl) (by kernel_rfl) ?_ ?_ ?_ | refine adraw_c (hc) Try.func68 (by kernel_rfl) (by kernel_rfl) ?_ ?_ ?_)
            focus (simp [gate]; done)
            focus (simp [pubCall]; done)
            first | (with_reducible refine aops_run (by simp [List.replicate_succ]; first | exact rfl | exact ⟨rfl, rfl⟩) ?_) | (with_reducible refine adraw_go (by simp [List.replicate_succ]; first | exact rfl | exact ⟨rfl, rfl, rfl⟩) ?_)
            repeat (first
             | (with_reducible first | refine AW.seq ?_ | refine AW.block ?_ | refine aThen_n ?_ | refine aBlk_n ?_ | refine AW.ret ?_ | refine aThen_r ?_ | refine aBlk_r ?_ | refine aops_done ?_ | refine AW.skip ?_ | refine AW.exit ?_ | refine aThen_e ?_ | refine aBlk_hit ?_ | refine AW.label ?_ | refine AW.scope ?_ | refine aNg_n ?_ | refine aNg_r ?_ | refine aNg_e ?_)
             | ((with_reducible refine AW.region ?_); with_reducible refine aops_run (by simp [List.replicate_succ]; first | exact rfl | exact ⟨rfl, rfl⟩) ?_)
             | ((with_reducible refine AW.draw mixedP ?_ ?_); (focus first | exact .inl rfl | exact .inr (by decide)); with_reducible refine adraw_go (by simp [List.replicate_succ]; first | exact rfl | exact ⟨rfl, rfl, rfl⟩) ?_)
             | (with_reducible refine adraw_done (by kernel_rfl) ?_)
             | ((with_reducible refine aBlk_miss ?_ ?_); focus decide)
             | ((with_reducible refine cond_t ?_ ?_); focus (simp [ev]; done))
             | ((with_reducible refine cond_f ?_ ?_); focus (simp [ev]; done)))
            (with_reducible first | refine aops_c (rscale_l (n := b) (p := p) (by omega) (by omega) (by omega) (by omega)) Try.func64 (by kernel_rfl) (by kernel_rfl) ?_ ?_ ?_ | refine adraw_c (rscale_l (n := b) (p := p) (by omega) (by omega) (by omega) (by omega)) Try.func64 (by kernel_rfl) (by kernel_rfl) ?_ ?_ ?_)
            focus (simp [gate, hwy]; done)
            focus (simp [pubCall, hwy]; done)
            first | (with_reducible refine aops_run (by simp [List.replicate_succ, hwy]; first | exact rfl | exact ⟨rfl, rfl⟩) ?_) | (with_reducible refine adraw_go (by simp [List.replicate_succ, hwy]; first | exact rfl | exact ⟨rfl, rfl, rfl⟩) ?_)
            repeat (first
             | (with_reducible first | refine AW.seq ?_ | refine AW.block ?_ | refine aThen_n ?_ | refine aBlk_n ?_ | refine AW.ret ?_ | refine aThen_r ?_ | refine aBlk_r ?_ | refine aops_done ?_ | refine AW.skip ?_ | refine AW.exit ?_ | refine aThen_e ?_ | refine aBlk_hit ?_ | refine AW.label ?_ | refine AW.scope ?_ | refine aNg_n ?_ | refine aNg_r ?_ | refine aNg_e ?_)
             | ((with_reducible refine AW.region ?_); with_reducible refine aops_run (by simp [List.replicate_succ, lstC, hl1, hl2, Glyph.row]; first | exact rfl | exact ⟨rfl, rfl⟩) ?_)
             | ((with_reducible refine AW.draw mixedP ?_ ?_); (focus first | exact .inl rfl | exact .inr (by decide)); with_reducible refine adraw_go (by simp [List.replicate_succ, lstC, hl1, hl2, Glyph.row]; first | exact rfl | exact ⟨rfl, rfl, rfl⟩) ?_)
             | (with_reducible refine adraw_done (by kernel_rfl) ?_)
             | ((with_reducible refine aBlk_miss ?_ ?_); focus decide)
             | ((with_reducible refine cond_t ?_ ?_); focus (simp [ev, lstC, hl1, hl2, Glyph.row]; done))
             | ((with_reducible refine cond_f ?_ ?_); focus (simp [ev, lstC, hl1, hl2, Glyph.row]; done)))
            (with_reducible first | refine aops_c (rheight_a g) Try.func107 (by kernel_rfl) (by kernel_rfl) ?_ ?_ ?_ | refine adraw_c (rheight_a g) Try.func107 (by kernel_rfl) (by kernel_rfl) ?_ ?_ ?_)
            focus (simp [gate, e3, glyphV, Glyph.row, wov, hwb, Stretch.row]; done)
            focus (simp [pubCall, e3, glyphV, Glyph.row, wov, hwb, Stretch.row]; done)
            first | (with_reducible refine aops_run (by simp [List.replicate_succ, e3, glyphV, Glyph.row, wov, hwb, Stretch.row]; first | exact rfl | exact ⟨rfl, rfl⟩) ?_) | (with_reducible refine adraw_go (by simp [List.replicate_succ, e3, glyphV, Glyph.row, wov, hwb, Stretch.row]; first | exact rfl | exact ⟨rfl, rfl, rfl⟩) ?_)
            repeat (first
             | (with_reducible first | refine AW.seq ?_ | refine AW.block ?_ | refine aThen_n ?_ | refine aBlk_n ?_ | refine AW.ret ?_ | refine aThen_r ?_ | refine aBlk_r ?_ | refine aops_done ?_ | refine AW.skip ?_ | refine AW.exit ?_ | refine aThen_e ?_ | refine aBlk_hit ?_ | refine AW.label ?_ | refine AW.scope ?_ | refine aNg_n ?_ | refine aNg_r ?_ | refine aNg_e ?_)
             | ((with_reducible refine AW.region ?_); with_reducible refine aops_run (by simp [List.replicate_succ, hwj]; first | exact rfl | exact ⟨rfl, rfl⟩) ?_)
             | ((with_reducible refine AW.draw mixedP ?_ ?_); (focus first | exact .inl rfl | exact .inr (by decide)); with_reducible refine adraw_go (by simp [List.replicate_succ, hwj]; first | exact rfl | exact ⟨rfl, rfl, rfl⟩) ?_)
             | (with_reducible refine adraw_done (by kernel_rfl) ?_)
             | ((with_reducible refine aBlk_miss ?_ ?_); focus decide)
             | ((with_reducible refine cond_t ?_ ?_); focus (simp [ev, hwj]; done))
             | ((with_reducible refine cond_f ?_ ?_); focus (simp [ev, hwj]; done)))
            refine ⟨⟨(j + 1, b + (g.height - s.overlap), kids ++ [⟨bk, bn, bs, bw, bh, bd, bx, scale b p + bd, bkids, bo, bsrc⟩]), by simp only; omega, by simp only; omega, by simpa using hI, by simp only; omega, by simp; omega, by simp; omega⟩, by simp only; omega, ?_⟩
            refine Le.wdrop 6 (Nat.le_of_ble_eq_true rfl) (by simp [subT, Stretch.row, partsC, Glyph.row, lstC, hrow, hmw, zboxC]) (by simp [Stretch.row, partsC, Glyph.row, lstC, hrow, hmw, zboxC]) (by simp [V.bnds, V.bnd]) (by simp [O.bnd, V.bnds, V.bnd, Stretch.row, partsC, Glyph.row, lstC, hrow, hmw, zboxC])
          · have hd : (r - j).toNat = 0 := by omega
            rw [hd] at hI b3
            simp only [List.replicate_zero, List.nil_append, Nat.zero_add] at hI b3
            repeat (first
             | (with_reducible first | refine AW.seq ?_ | refine AW.block ?_ | refine aThen_n ?_ | refine aBlk_n ?_ | refine AW.ret ?_ | refine aThen_r ?_ | refine aBlk_r ?_ | refine aops_done ?_ | refine AW.skip ?_ | refine AW.exit ?_ | refine aThen_e ?_ | refine aBlk_hit ?_ | refine AW.label ?_ | refine AW.scope ?_ | refine aNg_n ?_ | refine aNg_r ?_ | refine aNg_e ?_)
             | ((with_reducible refine AW.region ?_); with_reducible refine aops_run (by simp [List.replicate_succ, hj, hw]; first | exact rfl | exact ⟨rfl, rfl⟩) ?_)
             | ((with_reducible refine AW.draw mixedP ?_ ?_); (focus first | exact .inl rfl | exact .inr (by decide)); with_reducible refine adraw_go (by simp [List.replicate_succ, hj, hw]; first | exact rfl | exact ⟨rfl, rfl, rfl⟩) ?_)
             | (with_reducible refine adraw_done (by kernel_rfl) ?_)
             | ((with_reducible refine aBlk_miss ?_ ?_); focus decide)
             | ((with_reducible refine cond_t ?_ ?_); focus (simp [ev, hj, hw]; done))
             | ((with_reducible refine cond_f ?_ ?_); focus (simp [ev, hj, hw]; done)))
            refine ⟨⟨(k + 1, b, kids), by omega, hI, b1, b2, b3⟩, by simp only; omega, ?_⟩
            refine Le.wdrop 5 (Nat.le_of_ble_eq_true rfl) (by simp [subT, Stretch.row, partsC, lstC, zboxC]) (by simp [Stretch.row, partsC, lstC, zboxC]) (by simp [V.bnds, V.bnd]) (by simp [O.bnd, V.bnds, V.bnd, Stretch.row, partsC, lstC, zboxC])
      | false =>
        have ht : times r q = 1 := by simp [times, hx]
        rw [ht] at hI b3 t1 t2
        repeat (first
         | (with_reducible first | refine AW.seq ?_ | refine AW.block ?_ | refine aThen_n ?_ | refine aBlk_n ?_ | refine AW.ret ?_ | refine aThen_r ?_ | refine aBlk_r ?_ | refine aops_done ?_ | refine AW.skip ?_ | refine AW.exit ?_ | refine aThen_e ?_ | refine aBlk_hit ?_ | refine AW.label ?_ | refine AW.scope ?_ | refine aNg_n ?_ | refine aNg_r ?_ | refine aNg_e ?_)
         | ((with_reducible refine AW.region ?_); with_reducible refine aops_run (by simp [List.replicate_succ, hlt, hq, Stretch.row, partsC, Part.row, hx]; first | exact rfl | exact ⟨rfl, rfl⟩) ?_)
         | ((with_reducible refine AW.draw mixedP ?_ ?_); (focus first | exact .inl rfl | exact .inr (by decide)); with_reducible refine adraw_go (by simp [List.replicate_succ, hlt, hq, Stretch.row, partsC, Part.row, hx]; first | exact rfl | exact ⟨rfl, rfl, rfl⟩) ?_)
         | (with_reducible refine adraw_done (by kernel_rfl) ?_)
         | ((with_reducible refine aBlk_miss ?_ ?_); focus decide)
         | ((with_reducible refine cond_t ?_ ?_); focus (simp [ev, hlt, hq, Stretch.row, partsC, Part.row, hx]; done))
         | ((with_reducible refine cond_f ?_ ?_); focus (simp [ev, hlt, hq, Stretch.row, partsC, Part.row, hx]; done)))
        (with_reducible first | refine aops_c (rfind_a f q.name hf.gl) Try.func106 (by kernel_rfl) (by kernel_rfl) ?_ ?_ ?_ | refine adraw_c (rfind_a f q.name hf.gl) Try.func106 (by kernel_rfl) (by kernel_rfl) ?_ ?_ ?_)
        focus (simp [gate, foundV, hg, Glyph.row]; done)
        focus (simp [pubCall, foundV, hg, Glyph.row]; done)
        first | (with_reducible refine aops_run (by simp [List.replicate_succ, foundV, hg, Glyph.row]; first | exact rfl | exact ⟨rfl, rfl⟩) ?_) | (with_reducible refine adraw_go (by simp [List.replicate_succ, foundV, hg, Glyph.row]; first | exact rfl | exact ⟨rfl, rfl, rfl⟩) ?_)
        repeat (first
         | (with_reducible first | refine AW.seq ?_ | refine AW.block ?_ | refine aThen_n ?_ | refine aBlk_n ?_ | refine AW.ret ?_ | refine aThen_r ?_ | refine aBlk_r ?_ | refine aops_done ?_ | refine AW.skip ?_ | refine AW.exit ?_ | refine aThen_e ?_ | refine aBlk_hit ?_ | refine AW.label ?_ | refine AW.scope ?_ | refine aNg_n ?_ | refine aNg_r ?_ | refine aNg_e ?_)
         | ((with_reducible refine AW.region ?_); with_reducible refine aops_run (by simp [List.replicate_succ]; first | exact rfl | exact ⟨rfl, rfl⟩) ?_)
         | ((with_reducible refine AW.draw mixedP ?_ ?_); (focus first | exact .inl rfl | exact .inr (by decide)); with_reducible refine adraw_go (by simp [List.replicate_succ]; first | exact rfl | exact ⟨rfl, rfl, rfl⟩) ?_)
         | (with_reducible refine adraw_done (by kernel_rfl) ?_)
         | ((with_reducible refine aBlk_miss ?_ ?_); focus decide)
         | ((with_reducible refine cond_t ?_ ?_); focus (simp [ev]; done))
         | ((with_reducible refine cond_f ?_ ?_); focus (simp [ev]; done)))
        refine AW.loopH (ι := { x : Int × Int × List Box // 0 ≤ x.1 ∧ x.1 ≤ 1 ∧ ALL = x.2.2 ++ asmKids f s.overlap p x.2.1 (List.replicate (1 - x.1).toNat q ++ piecesL r (s.parts.drop (k + 1))) ∧ 0 ≤ x.2.1 ∧ x.2.1 ≤ 40000 * (x.2.2.length : Int) ∧ x.2.2.length + ((1 - x.1).toNat + (piecesL r (s.parts.drop (k + 1))).length) ≤ 8000 }) (fun x => [(15, .c (.int .i64 x.1.1)), (10, .c (.int .i64 x.1.2.1))]) (fun x => [.box 27 f.vs false, .box 59 (s.row.map V.c) false, .box 45 zboxC false, .box 45 (lstC (maxW 0 x.1.2.2) (scale T p) (.gr 4 11 (Box.rows x.1.2.2))) false, .tok 45 11 x.1.2.2.length, .box 102 (g.row.map V.c) false]) (fun x => (1 - x.1.1).toNat) ⟨(0, b, kids), by simp only [Int.sub_zero]; exact ⟨by omega, by omega, hI, b1, b2, b3⟩⟩ _ (by simp only [wr, wrOps, List.cons_append, List.nil_append, List.append_nil, List.append_assoc]; exact rfl) _ (by simp only [havoc, List.foldl_cons, List.foldl_nil, List.set_cons_zero, List.set_cons_succ]; exact rfl) ?_ ?_
        all_goals simp only [puts, List.foldl_cons, List.foldl_nil, List.set_cons_zero, List.set_cons_succ]
        · refine Le.weak (by simp [subT, Stretch.row, Glyph.row])
        · clear hI b1 b2 b3
          rintro ⟨⟨j, b, kids⟩, j1, j2, hI, b1, b2, b3⟩
          simp only at j1 j2 hI b1 b2 b3 ⊢
          by_cases hj : j < 1
          · have hd : (1 - j).toNat = (1 - (j + 1)).toNat + 1 := by omega
            rw [hd] at hI b3
            simp only [List.replicate_succ, List.cons_append, asmKids, hPB, hpk] at hI
            have hsb := scale_lb (n := b) (p := p) (by omega) (by omega) (by omega) (by omega)
            have hwj : IntKind.i64.wrap (j + 1) = j + 1 := wrap_i64 (by omega) (by omega)
            have hwy : IntKind.i64.wrap (scale b p + bd) = scale b p + bd := wrap_i64 (by omega) (by omega)
            have hwb : IntKind.i64.wrap (b + (g.height - s.overlap)) = b + (g.height - s.overlap) := wrap_i64 (by omega) (by omega)
            have hl1 : kids.length + 1 ≤ maxLen := by unfold maxLen; omega
            have hl2 : (kids.length + 1) * 128 ≤ 140737488355328 := by omega
            have hrow : Box.rows (kids ++ [⟨bk, bn, bs, bw, bh, bd, bx, scale b p + bd, bkids, bo, bsrc⟩]) = Box.rows kids ++ [[.int .i64 bk, .str bn, .int .i64 bs, .int .i64 bw, .int .i64 bh, .int .i64 bd, .int .i64 bx, .int .i64 (scale b p + bd), .sl (Box.rows bkids), .int .i64 bo, intsC bsrc]] := by rw [rows_snoc]; rfl
            have hmw : maxW 0 (kids ++ [⟨bk, bn, bs, bw, bh, bd, bx, scale b p + bd, bkids, bo, bsrc⟩]) = if maxW 0 kids < bw then bw else maxW 0 kids := by rw [maxW_snoc]; rfl
            repeat (first
             | (with_reducible first | refine AW.seq ?_ | refine AW.block ?_ | refine aThen_n ?_ | refine aBlk_n ?_ | refine AW.ret ?_ | refine aThen_r ?_ | refine aBlk_r ?_ | refine aops_done ?_ | refine AW.skip ?_ | refine AW.exit ?_ | refine aThen_e ?_ | refine aBlk_hit ?_ | refine AW.label ?_ | refine AW.scope ?_ | refine aNg_n ?_ | refine aNg_r ?_ | refine aNg_e ?_)
             | ((with_reducible refine AW.region ?_); with_reducible refine aops_run (by simp [List.replicate_succ, hj, hlt, hq, Stretch.row, partsC, Part.row]; first | exact rfl | exact ⟨rfl, rfl⟩) ?_)
             | ((with_reducible refine AW.draw mixedP ?_ ?_); (focus first | exact .inl rfl | exact .inr (by decide)); with_reducible refine adraw_go (by simp [List.replicate_succ, hj, hlt, hq, Stretch.row, partsC, Part.row]; first | exact rfl | exact ⟨rfl, rfl, rfl⟩) ?_)
             | (with_reducible refine adraw_done (by kernel_rfl) ?_)
             | ((with_reducible refine aBlk_miss ?_ ?_); focus decide)
             | ((with_reducible refine cond_t ?_ ?_); focus (simp [ev, hj, hlt, hq, Stretch.row, partsC, Part.row]; done))
             | ((with_reducible refine cond_f ?_ ?_); focus (simp [ev, hj, hlt, hq, Stretch.row, partsC, Part.row]; done)))
            (with_reducible first | refine aops_c (hc) Try.func68 (by kernel_rfl) (by kernel_rfl) ?_ ?_ ?_ | refine adraw_c (hc) Try.func68 (by kernel_rfl) (by kernel_rfl) ?_ ?_ ?_)
            focus (simp [gate]; done)
            focus (simp [pubCall]; done)
            first | (with_reducible refine aops_run (by simp [List.replicate_succ]; first | exact rfl | exact ⟨rfl, rfl⟩) ?_) | (with_reducible refine adraw_go (by simp [List.replicate_succ]; first | exact rfl | exact ⟨rfl, rfl, rfl⟩) ?_)
            repeat (first
             | (with_reducible first | refine AW.seq ?_ | refine AW.block ?_ | refine aThen_n ?_ | refine aBlk_n ?_ | refine AW.ret ?_ | refine aThen_r ?_ | refine aBlk_r ?_ | refine aops_done ?_ | refine AW.skip ?_ | refine AW.exit ?_ | refine aThen_e ?_ | refine aBlk_hit ?_ | refine AW.label ?_ | refine AW.scope ?_ | refine aNg_n ?_ | refine aNg_r ?_ | refine aNg_e ?_)
             | ((with_reducible refine AW.region ?_); with_reducible refine aops_run (by simp [List.replicate_succ]; first | exact rfl | exact ⟨rfl, rfl⟩) ?_)
             | ((with_reducible refine AW.draw mixedP ?_ ?_); (focus first | exact .inl rfl | exact .inr (by decide)); with_reducible refine adraw_go (by simp [List.replicate_succ]; first | exact rfl | exact ⟨rfl, rfl, rfl⟩) ?_)
             | (with_reducible refine adraw_done (by kernel_rfl) ?_)
             | ((with_reducible refine aBlk_miss ?_ ?_); focus decide)
             | ((with_reducible refine cond_t ?_ ?_); focus (simp [ev]; done))
             | ((with_reducible refine cond_f ?_ ?_); focus (simp [ev]; done)))
            (with_reducible first | refine aops_c (rscale_l (n := b) (p := p) (by omega) (by omega) (by omega) (by omega)) Try.func64 (by kernel_rfl) (by kernel_rfl) ?_ ?_ ?_ | refine adraw_c (rscale_l (n := b) (p := p) (by omega) (by omega) (by omega) (by omega)) Try.func64 (by kernel_rfl) (by kernel_rfl) ?_ ?_ ?_)
            focus (simp [gate, hwy]; done)
            focus (simp [pubCall, hwy]; done)
            first | (with_reducible refine aops_run (by simp [List.replicate_succ, hwy]; first | exact rfl | exact ⟨rfl, rfl⟩) ?_) | (with_reducible refine adraw_go (by simp [List.replicate_succ, hwy]; first | exact rfl | exact ⟨rfl, rfl, rfl⟩) ?_)
            repeat (first
             | (with_reducible first | refine AW.seq ?_ | refine AW.block ?_ | refine aThen_n ?_ | refine aBlk_n ?_ | refine AW.ret ?_ | refine aThen_r ?_ | refine aBlk_r ?_ | refine aops_done ?_ | refine AW.skip ?_ | refine AW.exit ?_ | refine aThen_e ?_ | refine aBlk_hit ?_ | refine AW.label ?_ | refine AW.scope ?_ | refine aNg_n ?_ | refine aNg_r ?_ | refine aNg_e ?_)
             | ((with_reducible refine AW.region ?_); with_reducible refine aops_run (by simp [List.replicate_succ, lstC, hl1, hl2, Glyph.row]; first | exact rfl | exact ⟨rfl, rfl⟩) ?_)
             | ((with_reducible refine AW.draw mixedP ?_ ?_); (focus first | exact .inl rfl | exact .inr (by decide)); with_reducible refine adraw_go (by simp [List.replicate_succ, lstC, hl1, hl2, Glyph.row]; first | exact rfl | exact ⟨rfl, rfl, rfl⟩) ?_)
             | (with_reducible refine adraw_done (by kernel_rfl) ?_)
             | ((with_reducible refine aBlk_miss ?_ ?_); focus decide)
             | ((with_reducible refine cond_t ?_ ?_); focus (simp [ev, lstC, hl1, hl2, Glyph.row]; done))
             | ((with_reducible refine cond_f ?_ ?_); focus (simp [ev, lstC, hl1, hl2, Glyph.row]; done)))
            (with_reducible first | refine aops_c (rheight_a g) Try.func107 (by kernel_rfl) (by kernel_rfl) ?_ ?_ ?_ | refine adraw_c (rheight_a g) Try.func107 (by kernel_rfl) (by kernel_rfl) ?_ ?_ ?_)
            focus (simp [gate, e3, glyphV, Glyph.row, wov, hwb, Stretch.row]; done)
            focus (simp [pubCall, e3, glyphV, Glyph.row, wov, hwb, Stretch.row]; done)
            first | (with_reducible refine aops_run (by simp [List.replicate_succ, e3, glyphV, Glyph.row, wov, hwb, Stretch.row]; first | exact rfl | exact ⟨rfl, rfl⟩) ?_) | (with_reducible refine adraw_go (by simp [List.replicate_succ, e3, glyphV, Glyph.row, wov, hwb, Stretch.row]; first | exact rfl | exact ⟨rfl, rfl, rfl⟩) ?_)
            repeat (first
             | (with_reducible first | refine AW.seq ?_ | refine AW.block ?_ | refine aThen_n ?_ | refine aBlk_n ?_ | refine AW.ret ?_ | refine aThen_r ?_ | refine aBlk_r ?_ | refine aops_done ?_ | refine AW.skip ?_ | refine AW.exit ?_ | refine aThen_e ?_ | refine aBlk_hit ?_ | refine AW.label ?_ | refine AW.scope ?_ | refine aNg_n ?_ | refine aNg_r ?_ | refine aNg_e ?_)
             | ((with_reducible refine AW.region ?_); with_reducible refine aops_run (by simp [List.replicate_succ, hwj]; first | exact rfl | exact ⟨rfl, rfl⟩) ?_)
             | ((with_reducible refine AW.draw mixedP ?_ ?_); (focus first | exact .inl rfl | exact .inr (by decide)); with_reducible refine adraw_go (by simp [List.replicate_succ, hwj]; first | exact rfl | exact ⟨rfl, rfl, rfl⟩) ?_)
             | (with_reducible refine adraw_done (by kernel_rfl) ?_)
             | ((with_reducible refine aBlk_miss ?_ ?_); focus decide)
             | ((with_reducible refine cond_t ?_ ?_); focus (simp [ev, hwj]; done))
             | ((with_reducible refine cond_f ?_ ?_); focus (simp [ev, hwj]; done)))
            refine ⟨⟨(j + 1, b + (g.height - s.overlap), kids ++ [⟨bk, bn, bs, bw, bh, bd, bx, scale b p + bd, bkids, bo, bsrc⟩]), by simp only; omega, by simp only; omega, by simpa using hI, by simp only; omega, by simp; omega, by simp; omega⟩, by simp only; omega, ?_⟩
            refine Le.wdrop 6 (Nat.le_of_ble_eq_true rfl) (by simp [subT, Stretch.row, partsC, Glyph.row, lstC, hrow, hmw, zboxC]) (by simp [Stretch.row, partsC, Glyph.row, lstC, hrow, hmw, zboxC]) (by simp [V.bnds, V.bnd]) (by simp [O.bnd, V.bnds, V.bnd, Stretch.row, partsC, Glyph.row, lstC, hrow, hmw, zboxC])
          · have hd : (1 - j).toNat = 0 := by omega
            rw [hd] at hI b3
            simp only [List.replicate_zero, List.nil_append, Nat.zero_add] at hI b3
            repeat (first
             | (with_reducible first | refine AW.seq ?_ | refine AW.block ?_ | refine aThen_n ?_ | refine aBlk_n ?_ | refine AW.ret ?_ | refine aThen_r ?_ | refine aBlk_r ?_ | refine aops_done ?_ | refine AW.skip ?_ | refine AW.exit ?_ | refine aThen_e ?_ | refine aBlk_hit ?_ | refine AW.label ?_ | refine AW.scope ?_ | refine aNg_n ?_ | refine aNg_r ?_ | refine aNg_e ?_)
             | ((with_reducible refine AW.region ?_); with_reducible refine aops_run (by simp [List.replicate_succ, hj, hw]; first | exact rfl | exact ⟨rfl, rfl⟩) ?_)
             | ((with_reducible refine AW.draw mixedP ?_ ?_); (focus first | exact .inl rfl | exact .inr (by decide)); with_reducible refine adraw_go (by simp [List.replicate_succ, hj, hw]; first | exact rfl | exact ⟨rfl, rfl, rfl⟩) ?_)
             | (with_reducible refine adraw_done (by kernel_rfl) ?_)
             | ((with_reducible refine aBlk_miss ?_ ?_); focus decide)
             | ((with_reducible refine cond_t ?_ ?_); focus (simp [ev, hj, hw]; done))
             | ((with_reducible refine cond_f ?_ ?_); focus (simp [ev, hj, hw]; done)))
            refine ⟨⟨(k + 1, b, kids), by omega, hI, b1, b2, b3⟩, by simp only; omega, ?_⟩
            refine Le.wdrop 5 (Nat.le_of_ble_eq_true rfl) (by simp [subT, Stretch.row, partsC, lstC, zboxC]) (by simp [Stretch.row, partsC, lstC, zboxC]) (by simp [V.bnds, V.bnd]) (by simp [O.bnd, V.bnds, V.bnd, Stretch.row, partsC, lstC, zboxC])
    · have e : ALL = kids := by rw [hI, List.drop_of_length_le (by omega)]; simp [piecesL, asmKids]
      subst e
      repeat (first
       | (with_reducible first | refine AW.seq ?_ | refine AW.block ?_ | refine aThen_n ?_ | refine aBlk_n ?_ | refine AW.ret ?_ | refine aThen_r ?_ | refine aBlk_r ?_ | refine aops_done ?_ | refine AW.skip ?_ | refine AW.exit ?_ | refine aThen_e ?_ | refine aBlk_hit ?_ | refine AW.label ?_ | refine AW.scope ?_ | refine aNg_n ?_ | refine aNg_r ?_ | refine aNg_e ?_)
       | ((with_reducible refine AW.region ?_); with_reducible refine aops_run (by simp [List.replicate_succ, hlt, Stretch.row, partsC, lstC, zboxC]; first | exact rfl | exact ⟨rfl, rfl⟩) ?_)
       | ((with_reducible refine AW.draw mixedP ?_ ?_); (focus first | exact .inl rfl | exact .inr (by decide)); with_reducible refine adraw_go (by simp [List.replicate_succ, hlt, Stretch.row, partsC, lstC, zboxC]; first | exact rfl | exact ⟨rfl, rfl, rfl⟩) ?_)
       | (with_reducible refine adraw_done (by kernel_rfl) ?_)
       | ((with_reducible refine aBlk_miss ?_ ?_); focus decide)
       | ((with_reducible refine cond_t ?_ ?_); focus (simp [ev, hlt, Stretch.row, partsC, lstC, zboxC]; done))
       | ((with_reducible refine cond_f ?_ ?_); focus (simp [ev, hlt, Stretch.row, partsC, lstC, zboxC]; done)))
      simp [aRet, ares, aresL, ares1, V.pub, V.pubs, ldV, Try.results69, lstC]
end Go.Proofs.Ythbcljjpmdfflaa
