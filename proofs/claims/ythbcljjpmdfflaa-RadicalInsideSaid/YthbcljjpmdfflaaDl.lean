/-
 Layer 33's laws: RadicalMakes, RadicalSign, RadicalJoins, RadicalGap.
-/
import Derived.Test.YthbcljjpmdfflaaDk
namespace Go.Proofs.Ythbcljjpmdfflaa
open Go.RowKit
set_option linter.unusedSimpArgs false
set_option linter.unusedVariables false
set_option maxRecDepth 100000
theorem few_sz {f : Font} (h : fewB f = true) : ∀ s ∈ f.stretches, s.sizes.length ≤ 1000 := by
 intro s hs
 simp only [fewB, Bool.and_eq_true, List.all_eq_true, decide_eq_true_eq] at h
 have := (h.2 s hs).1
 omega
section
variable (b : Box) (x y : Int)
@[simp] theorem at_w : (b.at_ x y).w = b.w := rfl
@[simp] theorem at_h : (b.at_ x y).h = b.h := rfl
@[simp] theorem at_d : (b.at_ x y).d = b.d := rfl
@[simp] theorem at_x : (b.at_ x y).x = x := rfl
@[simp] theorem at_y : (b.at_ x y).y = y := rfl
theorem at_at (x' y' : Int) : (b.at_ x y).at_ x' y' = b.at_ x' y' := rfl
theorem at_self : b.at_ b.x b.y = b := by cases b; rfl
end
@[simp] theorem rule_w (w h d : Int) : (ruleB w h d).w = w := rfl
@[simp] theorem rule_h (w h d : Int) : (ruleB w h d).h = h := rfl
@[simp] theorem rule_d (w h d : Int) : (ruleB w h d).d = d := rfl
structure CaseOk (f : Font) (b : Box) (deg : List Box) : Prop where
 hf : f.Fit
 hb : b.fit
 ho : b.okk
 hd : ∀ g ∈ deg, g.fit
 hdo : ∀ g ∈ deg, g.okk
 hl : deg.length ≤ maxLen
theorem zero_fit : Box.zero.fit := ⟨(Nat.zero_le _ : 0 ≤ maxLen), (Nat.zero_le _ : 0 ≤ maxLen), trivial⟩
theorem rdBox_fit {f : Font} {s : Style} {b : Box} {deg : List Box} (hs : (rdS f s b).fit) (hb : b.fit) (hd : ∀ g ∈ deg, g.fit) (hl : deg.length ≤ 1) : (rdBox f s b deg).fit := by
 match deg, hd, hl with
 | [], _, _ =>
   refine ⟨?_, (Nat.zero_le _ : 0 ≤ maxLen), at_fit _ _ hs, at_fit _ _ (rule_fit _ _ _), at_fit _ _ hb, trivial⟩
   show 3 ≤ maxLen; unfold maxLen; omega
 | [g], hd, _ =>
   refine ⟨?_, (Nat.zero_le _ : 0 ≤ maxLen), at_fit _ _ (hd g List.mem_cons_self), at_fit _ _ hs, at_fit _ _ (rule_fit _ _ _), at_fit _ _ hb, trivial⟩
   show 4 ≤ maxLen; unfold maxLen; omega
 | _ :: _ :: _, _, hl => simp at hl
theorem rdMake_fit {f : Font} {s : Style} {b : Box} {deg : List Box} (hb : b.fit) (hd : ∀ g ∈ deg, g.fit) : (rdMake f s b deg).1.fit := by
 unfold rdMake
 split
 · exact zero_fit
 · rename_i hc
   simp only [not_or, Bool.not_eq_false] at hc
   obtain ⟨hv, ho, _, _, hl⟩ := hc
   unfold doneR
   split
   · exact rdBox_fit (rd_ok hv ho).sg.fit hb hd (by omega)
   · exact zero_fit
set_option maxHeartbeats 1600000 in
theorem lmakes_a (f : Font) (s : Style) (b : Box) (deg : List Box) (hc : CaseOk f b deg) : AC Try.prog 10 [.agg (caseVs f s b deg)] (.c (.bool true)) := by
 obtain ⟨hf, hb, ho, hd, hdo, hl⟩ := hc
 have ht := tame_a f s b deg hf hb hd hl
 cases h1 : tameB f b deg with
 | false =>
   rw [h1] at ht
   refine en Try.func10 Try.ntmps10 ?_
   refine go0 ?_
   refine gc0 (awake33_a) Try.func34 ?_
   refine go0 ?_
   refine gc0 (ht) Try.func35 ?_
   refine go0 ?_
   simp [aRet, ares, aresL, ares1, V.pub, V.pubs, ldV, Try.results10]
 | true =>
   rw [h1] at ht
   obtain ⟨c1, c2, c3, c4⟩ := tame_cnt h1
   have hdd : ∀ g ∈ deg, g.okk ∧ g.cnt ≤ 1000000 := fun g hg => ⟨hdo g hg, by have := c3 g hg; omega⟩
   have hp := pmake_a f s b deg hf ho (by omega) hdd
   have hr := rmake_a f s b deg hf (few_sz c2) ⟨ho, by omega⟩ hdd (by omega)
   have hfit := rdMake_fit (f := f) (s := s) hb hd
   obtain ⟨X, hX⟩ : ∃ X, rdMake f s b deg = X := ⟨_, rfl⟩
   rw [hX] at hp hr hfit
   have he := requal_a X.1 hfit
   simp only [boxEV, boxV_vs, errV, styleV] at hp hr he
   refine en Try.func10 Try.ntmps10 ?_
   refine go0 ?_
   refine gc0 (awake33_a) Try.func34 ?_
   refine go0 ?_
   refine gc0 (ht) Try.func35 ?_
   refine go0 ?_
   refine gc0 (hp) Try.func36 ?_
   refine go0 ?_
   refine gc0 (hr) Try.func37 ?_
   refine go0 ?_
   refine gc0 (he) Try.func38 ?_
   refine go0 ?_
   simp [aRet, ares, aresL, ares1, V.pub, V.pubs, ldV, Try.results10]
structure Made (f : Font) (s : Style) (b : Box) (deg : List Box) : Prop where
 v : f.valid = true
 o : s.ok = true
 b1 : b.validB = true
 dl : deg.length ≤ 1
 d1 : ∀ g ∈ deg, g.validB = true
 few : fewB f = true
theorem made_facts {f : Font} {s : Style} {b : Box} {deg : List Box} (h : madeB f s b deg = true) : Made f s b deg := by
 simp only [madeB, Bool.and_eq_true, decide_eq_true_eq] at h
 obtain ⟨⟨h1, h2, h3, h4⟩, h5⟩ := h
 unfold rdMake at h5
 split at h5
 · cases h5
 · rename_i hc
   simp only [not_or, Bool.not_eq_false] at hc
   obtain ⟨a1, a2, a3, a4, a5⟩ := hc
   exact ⟨a1, a2, a3, h3, List.all_eq_true.1 a4, (tame_cnt h1).2.1⟩
theorem lno_a (F : FuncId) (f : Font) (s : Style) (b : Box) (deg : List Box) (hc : CaseOk f b deg) (h : madeB f s b deg = false) : AC Try.prog 39 [.agg (caseVs f s b deg)] noneV := by
 have := made_a f s b deg hc.hf hc.hb hc.ho hc.hd hc.hdo hc.hl
 rw [h, if_neg (by simp)] at this
 exact this
theorem lyes_a (f : Font) (s : Style) (b : Box) (deg : List Box) (hc : CaseOk f b deg) (h : madeB f s b deg = true) : AC Try.prog 39 [.agg (caseVs f s b deg)] (madeV f s b deg) := by
 have := made_a f s b deg hc.hf hc.hb hc.ho hc.hd hc.hdo hc.hl
 rw [h, if_pos rfl] at this
 exact this
set_option maxHeartbeats 3200000 in
theorem lgap_a (f : Font) (s : Style) (b : Box) (deg : List Box) (hc : CaseOk f b deg) : AC Try.prog 11 [.agg (caseVs f s b deg)] (.c (.bool true)) := by
 cases hm : madeB f s b deg with
 | false =>
   have h := lno_a 0 f s b deg hc hm
   unfold noneV at h
   refine en Try.func11 Try.ntmps11 ?_
   refine go0 ?_
   refine gc0 (awake33_a) Try.func34 ?_
   refine go0 ?_
   refine gc0 (h) Try.func39 ?_
   refine go0 ?_
   simp [aRet, ares, aresL, ares1, V.pub, V.pubs, ldV, Try.results11]
 | true =>
   have h := lyes_a f s b deg hc hm
   obtain ⟨hv, ho, hb, hdl, hdv, _⟩ := made_facts hm
   have hle := rleast_a f s hv ho
   have hnd := rneed_a f s b hv ho hb
   obtain ⟨p1, p2, r1, r2, l1, l2, sg, g1, g2⟩ := rd_ok (b := b) hv ho
   obtain ⟨sd, sk, sf, sc, sh1, sh2, sd1, sd2, sw1, sw2⟩ := sg
   obtain ⟨bw, bh, bd, bc⟩ := valid_len hb
   have hN : rdN f s b = b.h + b.d + rdL f s + rdR f s := rfl
   have hG : rdG f s b = if rdN f s b < (rdS f s b).h + (rdS f s b).d then rdL f s + half ((rdS f s b).h + (rdS f s b).d - rdN f s b) else rdL f s := rfl
   have hY : rdY f s b = b.h + rdG f s b := rfl
   have hT : rdT f s b = rdY f s b + rdR f s := rfl
   unfold madeV at h
   simp only [boxV_vs, styleV] at hle hnd
   obtain ⟨AT, hAT⟩ : ∃ z, rdAt f s deg = z := ⟨_, rfl⟩
   obtain ⟨X, hX⟩ : ∃ z, rdBox f s b deg = z := ⟨_, rfl⟩
   obtain ⟨R, hR⟩ : ∃ z, rdR f s = z := ⟨_, rfl⟩
   obtain ⟨L, hLL⟩ : ∃ z, rdL f s = z := ⟨_, rfl⟩
   obtain ⟨N, hNN⟩ : ∃ z, rdN f s b = z := ⟨_, rfl⟩
   obtain ⟨S, hS⟩ : ∃ z, rdS f s b = z := ⟨_, rfl⟩
   obtain ⟨G, hGG⟩ : ∃ z, rdG f s b = z := ⟨_, rfl⟩
   obtain ⟨Y, hYY⟩ : ∃ z, rdY f s b = z := ⟨_, rfl⟩
   obtain ⟨T, hTT⟩ : ∃ z, rdT f s b = z := ⟨_, rfl⟩
   rw [hAT, hX, hR, hS, hYY, hTT] at h
   rw [hR] at r1 r2 hN hT
   rw [hLL] at l1 l2 hN hG hle
   rw [hNN] at hN hG hnd
   rw [hS] at sh1 sh2 sd1 sd2 sw1 sw2 hG
   rw [hGG] at g1 g2 hG hY
   rw [hYY] at hY hT
   rw [hTT] at hT
   have hhf : N ≤ S.h + S.d → 0 ≤ half (S.h + S.d - N) ∧ half (S.h + S.d - N) ≤ S.h + S.d - N := fun h => half_le (by omega)
   have hGL : ¬ G < L := by
    rw [hG]
    split
    · have := hhf (by omega); omega
    · omega
   have hlow : ¬ S.h + S.d < N → T - S.h - S.d ≤ -b.d := by
    intro h1
    have := hhf (by omega)
    rw [hT, hY, hG]
    split <;> omega
   clear hG hhf
   have w1 : IntKind.i64.wrap (Y - b.h) = G := by rw [hY, Int.add_comm, Int.add_sub_cancel]; exact wrap_i64 (by omega) (by omega)
   have w2 : IntKind.i64.wrap (S.h + S.d) = S.h + S.d := wrap_i64 (by omega) (by omega)
   have w3 : IntKind.i64.wrap (T - S.h - S.d) = T - S.h - S.d := wrap_i64 (by omega) (by omega)
   have w4 : IntKind.i64.wrap (-b.d) = -b.d := wrap_i64 (by omega) (by omega)
   by_cases h1 : S.h + S.d < N
   · refine en Try.func11 Try.ntmps11 ?_
     refine go0 ?_
     refine gc0 (awake33_a) Try.func34 ?_
     refine go0 ?_
     refine gc0 (h) Try.func39 ?_
     refine go @w1 ?_
     refine gc @hGL (hle) Try.func40 ?_
     refine go @w2 ?_
     refine gc @h1 (hnd) Try.func41 ?_
     refine go0 ?_
     simp [aRet, ares, aresL, ares1, V.pub, V.pubs, ldV, Try.results11]
   · have hlo := hlow h1
     refine en Try.func11 Try.ntmps11 ?_
     refine go0 ?_
     refine gc0 (awake33_a) Try.func34 ?_
     refine go0 ?_
     refine gc0 (h) Try.func39 ?_
     refine go @w1 ?_
     refine gc @hGL (hle) Try.func40 ?_
     refine go @w2 ?_
     refine gc (cj @h1 <| cj @w3 <| cj @w4 <| @hlo) (hnd) Try.func41 ?_
     refine go0 ?_
     simp [aRet, ares, aresL, ares1, V.pub, V.pubs, ldV, Try.results11]
end Go.Proofs.Ythbcljjpmdfflaa
