/-
 Layers 30, 31 on the abstract machine: the reference's middle, axis, reach; the need.
-/
import Derived.Test.YthbcljjpmdfflaaGreatEa
namespace Go.Proofs.YthbcljjpmdfflaaGreat
open Go.RowKit
set_option linter.unusedSimpArgs false
set_option linter.unusedVariables false
set_option maxRecDepth 100000
set_option maxHeartbeats 1600000 in
theorem rcenter_a (b : Box) (a : Int) (ho : b.okk) (hc : b.cnt ≤ 900000) : AC Tryz.prog 57 [boxV b, .c (.int .i64 a)] (boxEV (centerR b a)) := by
 have hbv := rbvalid_a b ho (by omega)
 cases hv : b.validB with
 | false =>
   have e : centerR b a = (Box.zero, 1) := if_pos hv
   rw [e]
   rw [hv] at hbv
   simp only [boxEV, boxV_vs, errV] at hbv ⊢
   refine en Tryz.func57 Tryz.ntmps57 ?_
   refine go0 ?_
   refine gc0 (hbv) Tryz.func16 ?_
   refine go0 ?_
   simp [aRet, ares, aresL, ares1, V.pub, V.pubs, ldV, Tryz.results57, zero_vs]
 | true =>
   rw [hv] at hbv
   obtain ⟨bw, bh, bd, bc⟩ := valid_len hv
   have hl1 := rlen_a a
   have hl2 := rlen_a (b.h - b.d)
   have w1 : IntKind.i64.wrap (b.h - b.d) = b.h - b.d := wrap_i64 (by omega) (by omega)
   cases ha : lenValid a with
   | false =>
     have e : centerR b a = (Box.zero, 2) := by unfold centerR; rw [if_neg (by simp [hv]), if_pos (.inl ha)]
     rw [e]
     rw [ha] at hl1
     simp only [boxEV, boxV_vs, errV] at hbv ⊢
     refine en Tryz.func57 Tryz.ntmps57 ?_
     refine go0 ?_
     refine gc0 (hbv) Tryz.func16 ?_
     refine go0 ?_
     refine gc0 (hl1) Tryz.func61 ?_
     refine go0 ?_
     simp [aRet, ares, aresL, ares1, V.pub, V.pubs, ldV, Tryz.results57, zero_vs]
   | true =>
     rw [ha] at hl1
     cases hd : lenValid (b.h - b.d) with
     | false =>
       have e : centerR b a = (Box.zero, 2) := by unfold centerR; rw [if_neg (by simp [hv]), if_pos (.inr hd)]
       rw [e]
       rw [hd] at hl2
       simp only [boxEV, boxV_vs, errV] at hbv ⊢
       refine en Tryz.func57 Tryz.ntmps57 ?_
       refine go0 ?_
       refine gc0 (hbv) Tryz.func16 ?_
       refine go0 ?_
       refine gc @w1 (hl1) Tryz.func61 ?_
       refine gc0 (hl2) Tryz.func61 ?_
       refine go0 ?_
       simp [aRet, ares, aresL, ares1, V.pub, V.pubs, ldV, Tryz.results57, zero_vs]
     | true =>
       rw [hd] at hl2
       have hb2 := half_any (b.h - b.d)
       have hhf := rhalf_a (b.h - b.d)
       simp [lenValid] at ha
       have hav : lenValid a = true := by simp [lenValid]; omega
       have e : centerR b a = if lenValid (a - half (b.h - b.d)) = false then (Box.zero, 6) else (b.at_ b.x (a - half (b.h - b.d)), 0) := by unfold centerR; rw [if_neg (by simp [hv]), if_neg (by simp [hav, hd])]
       rw [e]
       obtain ⟨Hf, hHf⟩ : ∃ z, half (b.h - b.d) = z := ⟨_, rfl⟩
       rw [hHf] at hb2 hhf ⊢
       have w2 : IntKind.i64.wrap (a - Hf) = a - Hf := wrap_i64 (by omega) (by omega)
       have hl3 := rlen_a (a - Hf)
       cases hy : lenValid (a - Hf) with
       | false =>
         rw [if_pos rfl]
         rw [hy] at hl3
         simp only [boxEV, boxV_vs, errV] at hbv ⊢
         refine en Tryz.func57 Tryz.ntmps57 ?_
         refine go0 ?_
         refine gc0 (hbv) Tryz.func16 ?_
         refine go0 ?_
         refine gc @w1 (hl1) Tryz.func61 ?_
         refine gc0 (hl2) Tryz.func61 ?_
         refine go @w1 ?_
         refine gc @w2 (hhf) Tryz.func80 ?_
         refine go0 ?_
         refine gc0 (hl3) Tryz.func61 ?_
         refine go0 ?_
         simp [aRet, ares, aresL, ares1, V.pub, V.pubs, ldV, Tryz.results57, zero_vs]
       | true =>
         rw [if_neg (by simp)]
         rw [hy] at hl3
         simp only [boxEV, boxV_vs, errV] at hbv ⊢
         refine en Tryz.func57 Tryz.ntmps57 ?_
         refine go0 ?_
         refine gc0 (hbv) Tryz.func16 ?_
         refine go0 ?_
         refine gc @w1 (hl1) Tryz.func61 ?_
         refine gc0 (hl2) Tryz.func61 ?_
         refine go @w1 ?_
         refine gc @w2 (hhf) Tryz.func80 ?_
         refine go0 ?_
         refine gc0 (hl3) Tryz.func61 ?_
         refine go0 ?_
         simp [aRet, ares, aresL, ares1, V.pub, V.pubs, ldV, Tryz.results57]
theorem raxis_a (f : Font) (p : Int) : AC Tryz.prog 58 [.agg f.vs, .c (.int .i64 p)] (.c (.int .i64 (dlAxis f p))) := by
 have h := rscale1_a f.params.axis p
 unfold dlAxis
 refine en Tryz.func58 Tryz.ntmps58 ?_
 refine go0 ?_
 refine gc0 (h) Tryz.func54 ?_
 refine go0 ?_
 simp [aRet, ares, aresL, ares1, V.pub, V.pubs, ldV, Tryz.results58]
theorem reach_eq (f : Font) (b : Box) (p : Int) (hb : b.validB = true) (h1 : 1 ≤ p) (h2 : p ≤ 100) : (-1073741824 ≤ dlAxis f p ∧ dlAxis f p ≤ 1073741824) ∧ ∃ M, (if dlAxis f p < b.h then b.h - dlAxis f p else 0) = M ∧ 0 ≤ M ∧ M ≤ 2147483648 ∧ (if M < b.d + dlAxis f p then b.d + dlAxis f p else M) = dlReach f b p ∧ 0 ≤ dlReach f b p ∧ dlReach f b p ≤ 2147483648 := by
 obtain ⟨bw, bh, bd, bc⟩ := valid_len hb
 have ha := scale_any (p := p) f.params.axis (by omega) h2
 refine ⟨ha, ?_⟩
 have hR : dlReach f b p = mx (mx 0 (b.h - dlAxis f p)) (b.d + dlAxis f p) := rfl
 unfold dlAxis at *
 obtain ⟨A, hA⟩ : ∃ z, scale f.params.axis p = z := ⟨_, rfl⟩
 rw [hA] at ha hR ⊢
 have hm : mx 0 (b.h - A) = if A < b.h then b.h - A else 0 := by unfold mx; split <;> split <;> omega
 refine ⟨_, rfl, ?_, ?_, ?_, ?_, ?_⟩
 · split <;> omega
 · split <;> omega
 · rw [hR, hm]; rfl
 · rw [hR, hm]; unfold mx; split <;> split <;> omega
 · rw [hR, hm]; unfold mx; split <;> split <;> omega
theorem rreach_a (f : Font) (b : Box) (p : Int) (hb : b.validB = true) (h1 : 1 ≤ p) (h2 : p ≤ 100) : AC Tryz.prog 53 [.agg f.vs, boxV b, .c (.int .i64 p)] (.c (.int .i64 (dlReach f b p))) := by
 obtain ⟨bw, bh, bd, bc⟩ := valid_len hb
 obtain ⟨ha, M, hM, m1, m2, hD, d1, d2⟩ := reach_eq f b p hb h1 h2
 have hax := raxis_a f p
 obtain ⟨A, hA⟩ : ∃ z, dlAxis f p = z := ⟨_, rfl⟩
 rw [hA] at ha hM hD hax
 have w1 : IntKind.i64.wrap (b.h - A) = b.h - A := wrap_i64 (by omega) (by omega)
 have w2 : IntKind.i64.wrap (b.d + A) = b.d + A := wrap_i64 (by omega) (by omega)
 rw [boxV_vs]
 refine en Tryz.func53 Tryz.ntmps53 ?_
 refine go0 ?_
 refine gc0 (hax) Tryz.func58 ?_
 refine go (cj @w1 <| cj @w2 <| cj @hM <| @hD) ?_
 simp [aRet, ares, aresL, ares1, V.pub, V.pubs, ldV, Tryz.results53]
set_option maxHeartbeats 1600000 in
theorem pneed31_a (f : Font) (b : Box) (p : Int) (hf : f.Fit) (ho : b.okk) (hc : b.cnt ≤ 1000000) : AC Tryz.prog 13 [.agg f.vs, boxV b, .c (.int .i64 p)] (.c (.int .i64 (dlNeed f b p))) := by
 have hfv := fvalid_a f
 have hbv := pValid_a b ho hc
 rw [boxV_vs] at hbv ⊢
 cases hv : f.valid with
 | false =>
   have e : dlNeed f b p = 0 := if_pos (.inl hv)
   rw [e]
   rw [hv] at hfv
   refine en Tryz.func13 Tryz.ntmps13 ?_
   refine go0 ?_
   refine gc0 (hfv) Tryz.func17 ?_
   refine go0 ?_
   simp [aRet, ares, aresL, ares1, V.pub, V.pubs, ldV, Tryz.results13]
 | true =>
   rw [hv] at hfv
   cases hb : b.validB with
   | false =>
     have e : dlNeed f b p = 0 := if_pos (.inr (.inl hb))
     rw [e]
     rw [hb] at hbv
     refine en Tryz.func13 Tryz.ntmps13 ?_
     refine go0 ?_
     refine gc0 (hfv) Tryz.func17 ?_
     refine gc0 (hbv) Tryz.func18 ?_
     refine go0 ?_
     simp [aRet, ares, aresL, ares1, V.pub, V.pubs, ldV, Tryz.results13]
   | true =>
     rw [hb] at hbv
     by_cases h1 : p < 1
     · have e : dlNeed f b p = 0 := if_pos (.inr (.inr (.inl h1)))
       rw [e]
       refine en Tryz.func13 Tryz.ntmps13 ?_
       refine go0 ?_
       refine gc0 (hfv) Tryz.func17 ?_
       refine gc @h1 (hbv) Tryz.func18 ?_
       refine go0 ?_
       simp [aRet, ares, aresL, ares1, V.pub, V.pubs, ldV, Tryz.results13]
     · by_cases h2 : 100 < p
       · have e : dlNeed f b p = 0 := if_pos (.inr (.inr (.inr h2)))
         rw [e]
         refine en Tryz.func13 Tryz.ntmps13 ?_
         refine go0 ?_
         refine gc0 (hfv) Tryz.func17 ?_
         refine gc (cj @h1 <| @h2) (hbv) Tryz.func18 ?_
         refine go0 ?_
         simp [aRet, ares, aresL, ares1, V.pub, V.pubs, ldV, Tryz.results13]
       · have e : dlNeed f b p = if 536870912 < dlReach f b p then 0 else mx (scale (2 * dlReach f b p) f.params.delimPercent) (2 * dlReach f b p - scale f.params.delimShort p) := by unfold dlNeed; rw [if_neg]; rintro (h | h | h | h) <;> first | omega | (rw [hv] at h; cases h) | (rw [hb] at h; cases h)
         rw [e]
         obtain ⟨bw, bh, bd, bc⟩ := valid_len hb
         obtain ⟨ha, M, hM, m1, m2, hD, d1, d2⟩ := reach_eq f b p hb (by omega) (by omega)
         have hax := scale_a f.params.axis p
         have eA : scale f.params.axis p = dlAxis f p := rfl
         rw [eA] at hax
         obtain ⟨A, hA⟩ : ∃ z, dlAxis f p = z := ⟨_, rfl⟩
         rw [hA] at ha hM hD hax
         have w1 : IntKind.i64.wrap (b.h - A) = b.h - A := wrap_i64 (by omega) (by omega)
         have w2 : IntKind.i64.wrap (b.d + A) = b.d + A := wrap_i64 (by omega) (by omega)
         obtain ⟨D, hDD⟩ : ∃ z, dlReach f b p = z := ⟨_, rfl⟩
         rw [hDD] at hD d1 d2 ⊢
         have hs1 := scale_a (2 * D) f.params.delimPercent
         have hs2 := scale_a f.params.delimShort p
         have k2 := scale_any (p := p) f.params.delimShort (by omega) (by omega)
         obtain ⟨S1, hS1⟩ : ∃ z, scale (2 * D) f.params.delimPercent = z := ⟨_, rfl⟩
         obtain ⟨S2, hS2⟩ : ∃ z, scale f.params.delimShort p = z := ⟨_, rfl⟩
         rw [hS1] at hs1 ⊢
         rw [hS2] at hs2 k2 ⊢
         have w3 : IntKind.i64.wrap (2 * D) = 2 * D := wrap_i64 (by omega) (by omega)
         have w4 : IntKind.i64.wrap (2 * D - S2) = 2 * D - S2 := wrap_i64 (by omega) (by omega)
         have hmm : (if S1 < 2 * D - S2 then 2 * D - S2 else S1) = mx S1 (2 * D - S2) := rfl
         by_cases h3 : 536870912 < D
         · rw [if_pos h3]
           refine en Tryz.func13 Tryz.ntmps13 ?_
           refine go0 ?_
           refine gc0 (hfv) Tryz.func17 ?_
           refine gc (cj @h1 <| @h2) (hbv) Tryz.func18 ?_
           refine go0 ?_
           refine gc0 (hax) Tryz.func33 ?_
           refine go (cj @w1 <| cj @w2 <| cj @hM <| cj @hD <| @h3) ?_
           simp [aRet, ares, aresL, ares1, V.pub, V.pubs, ldV, Tryz.results13]
         · rw [if_neg h3]
           refine en Tryz.func13 Tryz.ntmps13 ?_
           refine go0 ?_
           refine gc0 (hfv) Tryz.func17 ?_
           refine gc (cj @h1 <| @h2) (hbv) Tryz.func18 ?_
           refine go0 ?_
           refine gc0 (hax) Tryz.func33 ?_
           refine go (cj @w1 <| cj @w2 <| cj @hM <| cj @hD <| cj @h3 <| @w3) ?_
           refine gc @w3 (hs1) Tryz.func33 ?_
           refine gc (cj @w4 <| @hmm) (hs2) Tryz.func33 ?_
           refine go0 ?_
           simp [aRet, ares, aresL, ares1, V.pub, V.pubs, ldV, Tryz.results13]
set_option maxHeartbeats 1600000 in
theorem rneed31_a (f : Font) (b : Box) (p : Int) (hf : f.Fit) (ho : b.okk) (hc : b.cnt ≤ 1000000) : AC Tryz.prog 25 [.agg f.vs, boxV b, .c (.int .i64 p)] (.c (.int .i64 (dlNeed f b p))) := by
 have hfv := rvalid_a f hf
 have hbv := rbvalid_a b ho hc
 rw [boxV_vs] at hbv ⊢
 cases hv : f.valid with
 | false =>
   have e : dlNeed f b p = 0 := if_pos (.inl hv)
   rw [e]
   rw [hv] at hfv
   refine en Tryz.func25 Tryz.ntmps25 ?_
   refine go0 ?_
   refine gc0 (hfv) Tryz.func23 ?_
   refine go0 ?_
   simp [aRet, ares, aresL, ares1, V.pub, V.pubs, ldV, Tryz.results25]
 | true =>
   rw [hv] at hfv
   cases hb : b.validB with
   | false =>
     have e : dlNeed f b p = 0 := if_pos (.inr (.inl hb))
     rw [e]
     rw [hb] at hbv
     refine en Tryz.func25 Tryz.ntmps25 ?_
     refine go0 ?_
     refine gc0 (hfv) Tryz.func23 ?_
     refine gc0 (hbv) Tryz.func16 ?_
     refine go0 ?_
     simp [aRet, ares, aresL, ares1, V.pub, V.pubs, ldV, Tryz.results25]
   | true =>
     rw [hb] at hbv
     by_cases h1 : p < 1
     · have e : dlNeed f b p = 0 := if_pos (.inr (.inr (.inl h1)))
       rw [e]
       refine en Tryz.func25 Tryz.ntmps25 ?_
       refine go0 ?_
       refine gc0 (hfv) Tryz.func23 ?_
       refine gc @h1 (hbv) Tryz.func16 ?_
       refine go0 ?_
       simp [aRet, ares, aresL, ares1, V.pub, V.pubs, ldV, Tryz.results25]
     · by_cases h2 : 100 < p
       · have e : dlNeed f b p = 0 := if_pos (.inr (.inr (.inr h2)))
         rw [e]
         refine en Tryz.func25 Tryz.ntmps25 ?_
         refine go0 ?_
         refine gc0 (hfv) Tryz.func23 ?_
         refine gc (cj @h1 <| @h2) (hbv) Tryz.func16 ?_
         refine go0 ?_
         simp [aRet, ares, aresL, ares1, V.pub, V.pubs, ldV, Tryz.results25]
       · have e : dlNeed f b p = if 536870912 < dlReach f b p then 0 else mx (scale (2 * dlReach f b p) f.params.delimPercent) (2 * dlReach f b p - scale f.params.delimShort p) := by unfold dlNeed; rw [if_neg]; rintro (h | h | h | h) <;> first | omega | (rw [hv] at h; cases h) | (rw [hb] at h; cases h)
         rw [e]
         obtain ⟨bw, bh, bd, bc⟩ := valid_len hb
         have hre := rreach_a f b p hb (by omega) (by omega)
         rw [boxV_vs] at hre
         obtain ⟨ha, M, hM, m1, m2, hD, d1, d2⟩ := reach_eq f b p hb (by omega) (by omega)
         obtain ⟨D, hDD⟩ : ∃ z, dlReach f b p = z := ⟨_, rfl⟩
         rw [hDD] at hD d1 d2 hre ⊢
         have hs1 := rscale1_a (2 * D) f.params.delimPercent
         have hs2 := rscale1_a f.params.delimShort p
         have k2 := scale_any (p := p) f.params.delimShort (by omega) (by omega)
         obtain ⟨S1, hS1⟩ : ∃ z, scale (2 * D) f.params.delimPercent = z := ⟨_, rfl⟩
         obtain ⟨S2, hS2⟩ : ∃ z, scale f.params.delimShort p = z := ⟨_, rfl⟩
         rw [hS1] at hs1 ⊢
         rw [hS2] at hs2 k2 ⊢
         have w3 : IntKind.i64.wrap (2 * D) = 2 * D := wrap_i64 (by omega) (by omega)
         have w4 : IntKind.i64.wrap (2 * D - S2) = 2 * D - S2 := wrap_i64 (by omega) (by omega)
         have hmm : (if S1 < 2 * D - S2 then 2 * D - S2 else S1) = mx S1 (2 * D - S2) := rfl
         by_cases h3 : 536870912 < D
         · rw [if_pos h3]
           refine en Tryz.func25 Tryz.ntmps25 ?_
           refine go0 ?_
           refine gc0 (hfv) Tryz.func23 ?_
           refine gc (cj @h1 <| @h2) (hbv) Tryz.func16 ?_
           refine go0 ?_
           refine gc0 (hre) Tryz.func53 ?_
           refine go @h3 ?_
           simp [aRet, ares, aresL, ares1, V.pub, V.pubs, ldV, Tryz.results25]
         · rw [if_neg h3]
           refine en Tryz.func25 Tryz.ntmps25 ?_
           refine go0 ?_
           refine gc0 (hfv) Tryz.func23 ?_
           refine gc (cj @h1 <| @h2) (hbv) Tryz.func16 ?_
           refine go0 ?_
           refine gc0 (hre) Tryz.func53 ?_
           refine go (cj @h3 <| @w3) ?_
           refine gc @w3 (hs1) Tryz.func54 ?_
           refine gc (cj @w4 <| @hmm) (hs2) Tryz.func54 ?_
           refine go0 ?_
           simp [aRet, ares, aresL, ares1, V.pub, V.pubs, ldV, Tryz.results25]
theorem few_iff4 (b : Box) : decide (b.sizeI 401 ≤ 400) = decide (b.cnt ≤ 400) := by
 have h := sizeI_eq b 401
 rw [decide_eq_decide]
 constructor
 · intro h1
   have := h.2.2.1 (by omega)
   omega
 · intro h1; omega
theorem rbfew4_a (b : Box) (h : b.fit) : AC Tryz.prog 15 [boxV b, .c (.int .i64 400)] (.c (.bool (decide (b.cnt ≤ 400)))) := by
 have hs := rsize_n (SizeOf.sizeOf b + 1) b (by omega) h 401 (by omega) (by omega)
 have e := few_iff4 b
 obtain ⟨z, hz⟩ : ∃ z, b.sizeI 401 = z := ⟨_, rfl⟩
 rw [hz] at hs e
 rw [← e]
 have w : IntKind.i64.wrap 401 = 401 := wrap_i64 (by omega) (by omega)
 rw [boxV_vs] at hs ⊢
 refine en Tryz.func15 Tryz.ntmps15 ?_
 refine go @w ?_
 refine gc0 (hs) Tryz.func34 ?_
 refine go0 ?_
 simp [aRet, ares, aresL, ares1, V.pub, V.pubs, ldV, Tryz.results15]
end Go.Proofs.YthbcljjpmdfflaaGreat
