/-
 Layer 31's laws: Covers.
-/
import Derived.Test.YthbcljjpmdfflaaEp
namespace Go.Proofs.Ythbcljjpmdfflaa
open Go.RowKit
set_option linter.unusedSimpArgs false
set_option linter.unusedVariables false
set_option maxRecDepth 100000
theorem reach_b {f : Font} {b : Box} {p : Int} (hv : f.valid = true) (hb : b.validB = true) (h1 : 1 ≤ p) (h2 : p ≤ 100) (hl : lowB b = true) : 0 ≤ dlReach f b p ∧ dlReach f b p ≤ 22000 := by
 obtain ⟨a1, a2⟩ := axis_b hv h1 h2
 unfold lowB at hl
 simp [hb] at hl
 unfold dlReach
 rw [mx_eq, mx_eq]
 omega
theorem mx_ge (a b : Int) : a ≤ mx a b ∧ b ≤ mx a b := by rw [mx_eq]; omega
theorem dlMake_hd {f : Font} (hv : f.valid = true) {p : Int} (h1 : 1 ≤ p) (h2 : p ≤ 100) {name : ByteArray} (hn : nameB name = true) (need : Int) : ∃ L, dlMake f name need p = (L, 0) ∧ L.fit ∧ -2000000002 ≤ L.h + L.d ∧ L.h + L.d ≤ 2000000002 := by
 rcases dlMake_ok hv h1 h2 hn need with ⟨_, e⟩ | ⟨_, S, hs, _, _, _, _, e⟩
 · exact ⟨_, e, ⟨(Nat.zero_le _ : 0 ≤ maxLen), (Nat.zero_le _ : 0 ≤ maxLen), trivial⟩, by simp [listB], by simp [listB]⟩
 · obtain ⟨_, _, k1, _, s1, s2, s3, s4, _, _⟩ := hs
   exact ⟨_, e, at_fit _ _ k1, by simp only [at_hE, at_dE]; omega, by simp only [at_hE, at_dE]; omega⟩
set_option maxHeartbeats 6400000 in
theorem lcovers31_a (f : Font) (p : Int) (name : ByteArray) (b : Box) (hf : f.Fit) (hn : name.size ≤ maxLen) (hb : b.fit) (ho : b.okk) : AC Try.prog 19 [.agg (cdVs f p), .c (.str name), boxV b] (.c (.bool true)) := by
 have hfw := dfew_a f b hf hb
 have hrv := rvalid_a f hf
 have hnm := name_a name hn
 simp only [boxV_vs] at hfw ⊢
 by_cases hcn : b.cnt ≤ 400
 · have hbv := rbvalid_a b ho (by omega)
   have hlw := dlow_a b ho (by omega)
   simp only [boxV_vs] at hbv hlw
   refine en Try.func19 Try.ntmps19 ?_
   have ff := (Try.results19)
   repeat any_goals (first | refine stW ?_ | exact lfW ff | refine ruW ff ?_ | refine caW ff (awake31_a) ?_ | refine caW ff (hfw) ?_ | refine caW ff (hrv) ?_ | refine caW ff (hbv) ?_ | refine caW ff (hlw) ?_ | refine caW ff (hnm) ?_ | refine cdW ff ?_ | ((first | refine bdW ff ?_ ?_ | refine bxW ff ?_ ?_ | refine bnW ff ?_ ?_ | refine brW ff ?_ ?_) <;> intro h <;> try (exfalso; omega)))
   have hv : f.valid = true := ‹_›
   have hbo : b.validB = true := ‹_›
   have hlo : lowB b = true := ‹_›
   have hnb : nameB name = true := ‹_›
   have hfe : fewB f = true := by
    have h0 : (!fewB f || !decide (b.cnt ≤ 400)) = false := ‹_›
    simp at h0
    exact h0.1
   have p1 : 1 ≤ p := by omega
   have p2 : p ≤ 100 := by omega
   have hz := few_sz hfe
   have hne := pneed31_a f b p hf ho (by omega)
   have hre := rreach_a f b p hbo p1 p2
   obtain ⟨r1, r2⟩ := reach_b hv hbo p1 p2 hlo
   have hN : dlNeed f b p = mx (scale (2 * dlReach f b p) f.params.delimPercent) (2 * dlReach f b p - scale f.params.delimShort p) := by
    unfold dlNeed
    rw [if_neg (by simp [hv, hbo]; omega), if_neg (by omega)]
   obtain ⟨hd1, hd2⟩ := mx_ge (scale (2 * dlReach f b p) f.params.delimPercent) (2 * dlReach f b p - scale f.params.delimShort p)
   rw [← hN] at hd1 hd2
   obtain ⟨N, hNN⟩ : ∃ N, dlNeed f b p = N := ⟨_, rfl⟩
   rw [hNN] at hne hd1 hd2
   obtain ⟨L, hL, l1, l2, l3⟩ := dlMake_hd hv p1 p2 hnb N
   have hmk := pmk31_a f name N p hf hn hz
   rw [hL] at hmk
   have hs1 := rscale1_a f.params.delimShort p
   obtain ⟨R, hR⟩ : ∃ R, dlReach f b p = R := ⟨_, rfl⟩
   rw [hR] at hre r1 r2 hd1 hd2
   have hs2 := rscale1_a (2 * R) f.params.delimPercent
   have hb1 := scale_any (p := p) f.params.delimShort (by omega) p2
   obtain ⟨X, hX⟩ : ∃ X, scale f.params.delimShort p = X := ⟨_, rfl⟩
   obtain ⟨Y, hY⟩ : ∃ Y, scale (2 * R) f.params.delimPercent = Y := ⟨_, rfl⟩
   rw [hX] at hs1 hd2 hb1
   rw [hY] at hs2 hd1
   have w1 : IntKind.i64.wrap (2 * R) = 2 * R := wrap_i64 (by omega) (by omega)
   have w2 : IntKind.i64.wrap (L.h + L.d) = L.h + L.d := wrap_i64 (by omega) (by omega)
   have w3 : IntKind.i64.wrap (2 * R - X) = 2 * R - X := wrap_i64 (by omega) (by omega)
   simp only [boxEV, boxV_vs, errV] at hne hmk hre
   have ff := (cj @w1 <| cj @w2 <| cj @w3 <| Try.results19)
   repeat any_goals (first | refine stW ?_ | exact lfW ff | refine ruW ff ?_ | refine caW ff (hne) ?_ | refine caW ff (hmk) ?_ | refine caW ff (hre) ?_ | refine caW ff (hs1) ?_ | refine caW ff (hs2) ?_ | refine cdW ff ?_ | ((first | refine bdW ff ?_ ?_ | refine bxW ff ?_ ?_ | refine bnW ff ?_ ?_ | refine brW ff ?_ ?_) <;> intro h <;> try (exfalso; omega)))
   have q : Y ≤ L.h + L.d := by omega
   have ff := (cj @q <| Try.results19)
   repeat any_goals (first | refine stW ?_ | exact lfW ff | refine ruW ff ?_ | refine cdW ff ?_ | ((first | refine bdW ff ?_ ?_ | refine bxW ff ?_ ?_ | refine bnW ff ?_ ?_ | refine brW ff ?_ ?_) <;> intro h <;> try (exfalso; omega)))
 · have e : (fewB f && decide (b.cnt ≤ 400)) = false := by simp [hcn]
   rw [e] at hfw
   refine en Try.func19 Try.ntmps19 ?_
   have ff := (Try.results19)
   repeat any_goals (first | refine stW ?_ | exact lfW ff | refine ruW ff ?_ | refine caW ff (awake31_a) ?_ | refine caW ff (hfw) ?_ | refine cdW ff ?_ | ((first | refine bdW ff ?_ ?_ | refine bxW ff ?_ ?_ | refine bnW ff ?_ ?_ | refine brW ff ?_ ?_) <;> intro h <;> try (exfalso; omega)))
end Go.Proofs.Ythbcljjpmdfflaa
