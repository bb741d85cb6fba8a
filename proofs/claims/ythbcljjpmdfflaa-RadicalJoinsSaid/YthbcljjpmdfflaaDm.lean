/-
 Layer 33's laws: RadicalJoins.
-/
import Derived.Test.YthbcljjpmdfflaaDl
import Derived.Test.YthbcljjpmdfflaaHa
namespace Go.Proofs.Ythbcljjpmdfflaa
open Go.RowKit
set_option linter.unusedSimpArgs false
set_option linter.unusedVariables false
set_option maxRecDepth 100000
theorem rdAt_b {f : Font} {s : Style} {deg : List Box} (hp1 : 1 ≤ rdP f s) (hp2 : rdP f s ≤ 100) (hd : ∀ g ∈ deg, g.validB = true) : 0 ≤ rdAt f s deg ∧ rdAt f s deg ≤ 4294967296 := by
 cases deg with
 | nil => simp [rdAt]
 | cons g l =>
   obtain ⟨gw, _, _, _⟩ := valid_len (hd g List.mem_cons_self)
   have k1 := scale_any (p := 28) (rdQ f s) (by omega) (by omega)
   have k2 := scale_any (p := 56) (rdQ f s) (by omega) (by omega)
   simp only [rdAt, rdA, mx]
   split <;> omega
set_option maxHeartbeats 6400000 in
theorem ljoins_a (f : Font) (s : Style) (b : Box) (deg : List Box) (hc : CaseOk f b deg) : AC Try.prog 12 [.agg (caseVs f s b deg)] (.c (.bool true)) := by
 cases hm : madeB f s b deg with
 | false =>
   have h := lno_a 0 f s b deg hc hm
   unfold noneV at h
   refine en Try.func12 Try.ntmps12 ?_
   refine go0 ?_
   refine gc0 (awake33_a) Try.func34 ?_
   refine go0 ?_
   refine gc0 (h) Try.func39 ?_
   refine go0 ?_
   simp [aRet, ares, aresL, ares1, V.pub, V.pubs, ldV, Try.results12]
 | true =>
   have h := lyes_a f s b deg hc hm
   obtain ⟨hv, ho, hb, hdl, hdv, _⟩ := made_facts hm
   obtain ⟨p1, p2, r1, r2, l1, l2, sg, g1, g2⟩ := rd_ok (b := b) hv ho
   obtain ⟨sd, sk, sf, sc, sh1, sh2, sd1, sd2, sw1, sw2⟩ := sg
   obtain ⟨bw, bh, bd, bc⟩ := valid_len hb
   have bat := rdAt_b p1 p2 hdv
   have hpar := rpar_a f s f.params.rule
   have eR : scale f.params.rule (sizeOf_ f.params s) = rdR f s := rfl
   rw [eR] at hpar
   have hY : rdY f s b = b.h + rdG f s b := rfl
   have hT : rdT f s b = rdY f s b + rdR f s := rfl
   have hXw : (rdBox f s b deg).w = rdAt f s deg + (rdS f s b).w + mx 0 b.w := rfl
   unfold madeV at h
   simp only [styleV] at hpar
   obtain ⟨AT, hAT⟩ : ∃ z, rdAt f s deg = z := ⟨_, rfl⟩
   obtain ⟨X, hX⟩ : ∃ z, rdBox f s b deg = z := ⟨_, rfl⟩
   obtain ⟨R, hR⟩ : ∃ z, rdR f s = z := ⟨_, rfl⟩
   obtain ⟨S, hS⟩ : ∃ z, rdS f s b = z := ⟨_, rfl⟩
   obtain ⟨G, hGG⟩ : ∃ z, rdG f s b = z := ⟨_, rfl⟩
   obtain ⟨Y, hYY⟩ : ∃ z, rdY f s b = z := ⟨_, rfl⟩
   obtain ⟨T, hTT⟩ : ∃ z, rdT f s b = z := ⟨_, rfl⟩
   obtain ⟨W, hW⟩ : ∃ z, mx 0 b.w = z := ⟨_, rfl⟩
   rw [hAT, hX, hR, hS, hYY, hTT, hW] at h
   rw [hAT] at bat
   rw [hX, hAT, hS, hW] at hXw
   rw [hR] at r1 r2 hT hpar
   rw [hS] at sh1 sh2 sd1 sd2 sw1 sw2
   rw [hGG] at g1 g2 hY
   rw [hYY] at hY hT
   rw [hTT] at hT
   have hm1 : (if 0 < b.w then b.w else 0) = W := hW
   have bW : 0 ≤ W ∧ W ≤ 1073741824 := by rw [← hm1]; omega
   have hs1 : T - S.h + S.h = T := by omega
   refine en Try.func12 Try.ntmps12 ?_
   have ff := (cj @hXw <| cj @hT <| cj @hs1 <| cj @hm1 <| Try.results12)
   repeat any_goals (first | refine stW ?_ | exact lfW ff | refine ruW ff ?_ | refine caW ff (awake33_a) ?_ | refine caW ff (h) ?_ | refine caW ff (hpar) ?_ | refine cdW ff ?_ | ((first | refine bdW ff ?_ ?_ | refine bxW ff ?_ ?_ | refine bnW ff ?_ ?_ | refine brW ff ?_ ?_) <;> intro h <;> try (exfalso; omega)))
end Go.Proofs.Ythbcljjpmdfflaa
