/-
 Layer 33's laws: RadicalSign.
-/
import Derived.Test.YthbcljjpmdfflaaDl
import Derived.Test.YthbcljjpmdfflaaAz
namespace Go.Proofs.Ythbcljjpmdfflaa
open Go.RowKit
set_option linter.unusedSimpArgs false
set_option linter.unusedVariables false
set_option maxRecDepth 100000
set_option maxHeartbeats 3200000 in
theorem lsign_a (f : Font) (s : Style) (b : Box) (deg : List Box) (hc : CaseOk f b deg) : AC Try.prog 15 [.agg (caseVs f s b deg)] (.c (.bool true)) := by
 cases hm : madeB f s b deg with
 | false =>
   have h := lno_a 0 f s b deg hc hm
   unfold noneV at h
   refine en Try.func15 Try.ntmps15 ?_
   refine go0 ?_
   refine gc0 (awake33_a) Try.func34 ?_
   refine go0 ?_
   refine gc0 (h) Try.func39 ?_
   refine go0 ?_
   simp [aRet, ares, aresL, ares1, V.pub, V.pubs, ldV, Try.results15]
 | true =>
   have h := lyes_a f s b deg hc hm
   obtain ⟨hv, ho, hb, hdl, hdv, hfew⟩ := made_facts hm
   have hsf := (rd_ok (b := b) hv ho).sg.fit
   have hsg := rsign_a f s b hc.hf (few_sz hfew) hv ho hb
   unfold madeV at h
   have hat1 := rat_a ((rdS f s b).at_ (rdAt f s deg) (rdT f s b - (rdS f s b).h)) 0 0
   rw [at_at] at hat1
   have hat2 := rat_a (rdS f s b) 0 0
   have hat3 := rat_a (b.at_ (rdAt f s deg + (rdS f s b).w) 0) b.x b.y
   rw [at_at, at_self] at hat3
   have he1 := requal_a ((rdS f s b).at_ 0 0) (at_fit _ _ hsf)
   have he2 := requal_a b hc.hb
   obtain ⟨A1, hA1⟩ : ∃ z, (rdS f s b).at_ (rdAt f s deg) (rdT f s b - (rdS f s b).h) = z := ⟨_, rfl⟩
   obtain ⟨A2, hA2⟩ : ∃ z, (ruleB (mx 0 b.w) (rdR f s) 0).at_ (rdAt f s deg + (rdS f s b).w) (rdY f s b) = z := ⟨_, rfl⟩
   obtain ⟨A3, hA3⟩ : ∃ z, b.at_ (rdAt f s deg + (rdS f s b).w) 0 = z := ⟨_, rfl⟩
   rw [hA1] at hat1 h
   rw [hA2, hA3] at h
   rw [hA3] at hat3
   obtain ⟨A4, hA4⟩ : ∃ z, (rdS f s b).at_ 0 0 = z := ⟨_, rfl⟩
   rw [hA4] at hat1 hat2 he1
   simp only [boxV_vs, styleV] at hat1 hat2 hat3 he1 he2 hsg
   match deg, hdl, hc, h, hm with
   | [], hdl, hc, h, hm =>
     have hr0 : Box.rows [] = [] := rfl
     refine en Try.func15 Try.ntmps15 ?_
     refine go0 ?_
     refine gc0 (awake33_a) Try.func34 ?_
     refine go0 ?_
     refine gc0 (h) Try.func39 ?_
     refine gn0 ?_
     with_reducible refine AW.drawK mixedP (.inl rfl) ?_
     iterate 1 refine dk 2 trivial ?_
     refine dc trivial (hat1) Try.func43 ?_
     iterate 1 refine dk 6 trivial ?_
     refine dc trivial (hsg) Try.func44 ?_
     refine dc trivial (hat2) Try.func43 ?_
     refine dc trivial (he1) Try.func38 ?_
     iterate 1 refine dk 10 trivial ?_
     refine dc trivial (hat3) Try.func43 ?_
     iterate 1 refine dk 2 trivial ?_
     refine dc trivial (he2) Try.func38 ?_
     iterate 1 refine dk 2 trivial ?_
     refine ak_done (by kernel_rfl) ?_
     refine gn0 ?_
     with_reducible refine AW.drawK mixedP (.inl rfl) ?_
     iterate 1 refine dk 5 @hr0 ?_
     iterate 2 refine dk 10 @hr0 ?_
     iterate 1 refine dk 2 trivial ?_
     refine ak_done (by kernel_rfl) ?_
     refine go0 ?_
     simp [aRet, ares, aresL, ares1, V.pub, V.pubs, ldV, Try.results15]
   | [g], hdl, hc, h, hm =>
     have hr1 : Box.rows [g] = [g.row] := rfl
     have hk : Box.rows (rdBox f s b [g]).kids = [(g.at_ (rdA f s g + scale (rdQ f s) 56 - g.w) (rdV f s b g)).row, ((rdS f s b).at_ (rdAt f s [g]) (rdT f s b - (rdS f s b).h)).row, ((ruleB (mx 0 b.w) (rdR f s) 0).at_ (rdAt f s [g] + (rdS f s b).w) (rdY f s b)).row, (b.at_ (rdAt f s [g] + (rdS f s b).w) 0).row] := rfl
     have hat5 := rat_a (g.at_ (rdA f s g + scale (rdQ f s) 56 - g.w) (rdV f s b g)) g.x g.y
     rw [at_at, at_self] at hat5
     have he5 := requal_a g (hc.hd g List.mem_cons_self)
     obtain ⟨A5, hA5⟩ : ∃ z, g.at_ (rdA f s g + scale (rdQ f s) 56 - g.w) (rdV f s b g) = z := ⟨_, rfl⟩
     obtain ⟨X, hX⟩ : ∃ z, rdBox f s b [g] = z := ⟨_, rfl⟩
     rw [hA5] at hat5 hk
     rw [hX] at h hk
     simp only [boxV_vs] at hat5 he5
     refine en Try.func15 Try.ntmps15 ?_
     refine go0 ?_
     refine gc0 (awake33_a) Try.func34 ?_
     refine go0 ?_
     refine gc0 (h) Try.func39 ?_
     refine gn0 ?_
     with_reducible refine AW.drawK mixedP (.inl rfl) ?_
     iterate 1 refine dk 2 trivial ?_
     refine dc trivial (hat1) Try.func43 ?_
     iterate 1 refine dk 6 trivial ?_
     refine dc trivial (hsg) Try.func44 ?_
     refine dc trivial (hat2) Try.func43 ?_
     refine dc trivial (he1) Try.func38 ?_
     iterate 1 refine dk 10 trivial ?_
     refine dc trivial (hat3) Try.func43 ?_
     iterate 1 refine dk 2 trivial ?_
     refine dc trivial (he2) Try.func38 ?_
     iterate 1 refine dk 2 trivial ?_
     refine ak_done (by kernel_rfl) ?_
     refine gn0 ?_
     with_reducible refine AW.drawK mixedP (.inl rfl) ?_
     iterate 1 refine dk 5 @hr1 ?_
     iterate 2 refine dk 7 (cj @hr1 <| @hk) ?_
     refine dc trivial (hat5) Try.func43 ?_
     iterate 1 refine dk 4 @hr1 ?_
     refine dc trivial (he5) Try.func38 ?_
     iterate 1 refine dk 2 trivial ?_
     refine ak_done (by kernel_rfl) ?_
     refine go0 ?_
     simp [aRet, ares, aresL, ares1, V.pub, V.pubs, ldV, Try.results15]
   | _ :: _ :: _, hdl, _, _, _ => simp at hdl
end Go.Proofs.Ythbcljjpmdfflaa
