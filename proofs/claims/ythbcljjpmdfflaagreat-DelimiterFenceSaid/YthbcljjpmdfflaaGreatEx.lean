/-
 Layer 31's laws: Fence.
-/
import Derived.Test.YthbcljjpmdfflaaGreatEn
import Derived.Test.YthbcljjpmdfflaaGreatEw
namespace Go.Proofs.YthbcljjpmdfflaaGreat
open Go.RowKit
set_option linter.unusedSimpArgs false
set_option linter.unusedVariables false
set_option maxRecDepth 100000
theorem fence_fit (f : Font) (names : ByteArray) (b : Box) (p : Int) (hb : b.fit) : (fenceR f names b p).1.fit := by
 unfold fenceR
 split
 · exact zero_fit
 · split
   · exact zero_fit
   · unfold rowR
     split
     · exact zero_fit
     · split
       · exact zero_fit
       · unfold lstR
         split
         · exact zero_fit
         · refine ⟨?_, (Nat.zero_le _ : 0 ≤ maxLen), at_fit _ _ (dlMake_fit _ _ _ _), at_fit _ _ (at_fit _ _ hb), at_fit _ _ (dlMake_fit _ _ _ _), trivial⟩
           show 3 ≤ maxLen; unfold maxLen; omega
set_option maxHeartbeats 6400000 in
theorem lfence31_a (f : Font) (p : Int) (names : ByteArray) (b : Box) (hf : f.Fit) (hn : names.size ≤ maxLen) (hb : b.fit) (ho : b.okk) : AC Tryz.prog 3 [.agg (cdVs f p), .c (.str names), boxV b] (.c (.bool true)) := by
 have hfw := dfew_a f b hf hb
 simp only [boxV_vs] at hfw ⊢
 by_cases hcn : fewB f = true ∧ b.cnt ≤ 400
 · obtain ⟨hfe, hcn⟩ := hcn
   have hz := few_sz hfe
   have hlw := dlow_a b ho (by omega)
   have h1 := pfence_a f names b p hf hz ho (by omega) hn
   have h2 := rfence_a f names b p hf hz ho (by omega) hn
   have hq := requal_a _ (fence_fit f names b p hb)
   obtain ⟨Y, hY⟩ : ∃ Y, fenceR f names b p = Y := ⟨_, rfl⟩
   rw [hY] at h1 h2 hq
   simp only [boxV_vs, boxEV, errV] at hlw h1 h2 hq
   refine en Tryz.func3 Tryz.ntmps3 ?_
   have ff := (Tryz.results3)
   repeat any_goals (first | refine stW ?_ | exact lfW ff | refine ruW ff ?_ | refine caW ff (awake31_a) ?_ | refine caW ff (hfw) ?_ | refine caW ff (hlw) ?_ | refine caW ff (h1) ?_ | refine caW ff (h2) ?_ | refine caW ff (hq) ?_ | refine cdW ff ?_ | ((first | refine bdW ff ?_ ?_ | refine bxW ff ?_ ?_ | refine bnW ff ?_ ?_ | refine brW ff ?_ ?_) <;> intro h <;> try (exfalso; omega)))
 · have e : (fewB f && decide (b.cnt ≤ 400)) = false := by
    cases h : fewB f with
    | false => rfl
    | true => simp only [h, true_and] at hcn; simp [hcn]
   rw [e] at hfw
   refine en Tryz.func3 Tryz.ntmps3 ?_
   have ff := (Tryz.results3)
   repeat any_goals (first | refine stW ?_ | exact lfW ff | refine ruW ff ?_ | refine caW ff (awake31_a) ?_ | refine caW ff (hfw) ?_ | refine cdW ff ?_ | ((first | refine bdW ff ?_ ?_ | refine bxW ff ?_ ?_ | refine bnW ff ?_ ?_ | refine brW ff ?_ ?_) <;> intro h <;> try (exfalso; omega)))
end Go.Proofs.YthbcljjpmdfflaaGreat
