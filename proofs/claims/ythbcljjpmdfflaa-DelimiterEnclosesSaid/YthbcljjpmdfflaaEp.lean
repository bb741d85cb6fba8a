/-
 Layer 31's laws: Middle, Covers.
-/
import Derived.Test.YthbcljjpmdfflaaEn
namespace Go.Proofs.Ythbcljjpmdfflaa
open Go.RowKit
set_option linter.unusedSimpArgs false
set_option linter.unusedVariables false
set_option maxRecDepth 100000
theorem dlMake_bad {f : Font} {name : ByteArray} {need p : Int} (h : f.valid = false ∨ nameB name = false ∨ p < 1 ∨ 100 < p) : ∃ e, dlMake f name need p = (Box.zero, e) ∧ e ≠ 0 := by
 by_cases h1 : f.valid = false ∨ nameB name = false
 · exact ⟨1, if_pos h1, by omega⟩
 · refine ⟨2, ?_, by omega⟩
   unfold dlMake
   have h2 : p < 1 ∨ 100 < p := by
    simp only [not_or] at h1
    rcases h with h | h | h | h
    · exact absurd h h1.1
    · exact absurd h h1.2
    · exact .inl h
    · exact .inr h
   rw [if_neg h1, if_pos h2]
set_option maxHeartbeats 3200000 in
theorem lmiddle_a (f : Font) (p : Int) (name : ByteArray) (need : Int) (hf : f.Fit) (hn : name.size ≤ maxLen) : AC Try.prog 18 [.agg (cdVs f p), .c (.str name), .c (.int .i64 need)] (.c (.bool true)) := by
 have hfw := few_a f hf.gl
 refine en Try.func18 Try.ntmps18 ?_
 have ff := (Try.results18)
 repeat any_goals (first | refine stW ?_ | exact lfW ff | refine ruW ff ?_ | refine caW ff (awake31_a) ?_ | refine caW ff (hfw) ?_ | refine cdW ff ?_ | ((first | refine bdW ff ?_ ?_ | refine bxW ff ?_ ?_ | refine bnW ff ?_ ?_ | refine brW ff ?_ ?_) <;> intro h <;> try (exfalso; omega)))
 have hz := few_sz (f := f) ‹_›
 have h1 := pmk31_a f name need p hf hn hz
 by_cases hbad : f.valid = false ∨ nameB name = false ∨ p < 1 ∨ 100 < p
 · obtain ⟨e, he, he0⟩ := dlMake_bad (need := need) hbad
   have hq := requal_a _ zero_fit
   rw [he] at h1
   simp only [boxEV, boxV_vs, errV, zero_vs] at h1 hq
   have ff := (cj @he0 <| Try.results18)
   repeat any_goals (first | refine stW ?_ | exact lfW ff | refine ruW ff ?_ | refine caW ff (h1) ?_ | refine caW ff (hq) ?_ | refine cdW ff ?_ | ((first | refine bdW ff ?_ ?_ | refine bxW ff ?_ ?_ | refine bnW ff ?_ ?_ | refine brW ff ?_ ?_) <;> intro h <;> try (exfalso; omega)))
 · simp only [not_or, Bool.not_eq_false] at hbad
   obtain ⟨hv, hnm, p1, p2⟩ := hbad
   rcases dlMake_ok (p := p) hv (by omega) (by omega) hnm need with ⟨e, _⟩ | ⟨_, S, hs, hb, hS, q1, q2, e⟩
   · exact absurd e ‹_›
   · obtain ⟨_, b1, b2⟩ := find_valid hv (p := p) (by omega) (by omega) hnm need
     rw [hS] at b1 b2
     obtain ⟨c1, c2, c3, c4⟩ := half_b b1 b2
     obtain ⟨a1, a2⟩ := axis_b hv (p := p) (by omega) (by omega)
     have hax := raxis_a f p
     obtain ⟨_, _, _, _, s1, s2, s3, s4, _, _⟩ := hs
     rw [e] at h1
     obtain ⟨A, hA⟩ : ∃ A, dlAxis f p = A := ⟨_, rfl⟩
     obtain ⟨H, hH⟩ : ∃ H, half (S.h - S.d) = H := ⟨_, rfl⟩
     rw [hA] at a1 a2 hax h1
     rw [hH] at c1 c2 c3 c4 h1
     obtain ⟨Y, hY⟩ : ∃ z, A - H = z := ⟨_, rfl⟩
     rw [hY] at h1
     obtain ⟨U, hU⟩ : ∃ z, Y + S.h = z := ⟨_, rfl⟩
     obtain ⟨W, hW⟩ : ∃ z, U - A = z := ⟨_, rfl⟩
     obtain ⟨Q, hQ⟩ : ∃ z, Y - S.d = z := ⟨_, rfl⟩
     obtain ⟨R, hR⟩ : ∃ z, A - Q = z := ⟨_, rfl⟩
     obtain ⟨D, hD⟩ : ∃ z, W - R = z := ⟨_, rfl⟩
     have w1 : IntKind.i64.wrap (Y + S.h) = U := by rw [hU]; exact wrap_i64 (by omega) (by omega)
     have w2 : IntKind.i64.wrap (U - A) = W := by rw [hW]; exact wrap_i64 (by omega) (by omega)
     have w3 : IntKind.i64.wrap (Y - S.d) = Q := by rw [hQ]; exact wrap_i64 (by omega) (by omega)
     have w4 : IntKind.i64.wrap (A - Q) = R := by rw [hR]; exact wrap_i64 (by omega) (by omega)
     have w5 : IntKind.i64.wrap (W - R) = D := by rw [hD]; exact wrap_i64 (by omega) (by omega)
     have d1 : -1 ≤ D := by omega
     have d2 : D ≤ 1 := by omega
     simp only [boxEV, boxV_vs, errV] at h1
     clear hU hW hQ hR hD hY hH hA c1 c2 c3 c4 a1 a2 s1 s2 s3 s4 b1 b2
     have ff := (cj @w1 <| cj @w2 <| cj @w3 <| cj @w4 <| cj @w5 <| cj @d1 <| cj @d2 <| Try.results18)
     repeat any_goals (first | refine stW ?_ | exact lfW ff | refine ruW ff ?_ | refine caW ff (h1) ?_ | refine caW ff (hax) ?_ | refine cdW ff ?_ | ((first | refine bdW ff ?_ ?_ | refine bxW ff ?_ ?_ | refine bnW ff ?_ ?_ | refine brW ff ?_ ?_) <;> intro h <;> try (exfalso; omega)))
end Go.Proofs.Ythbcljjpmdfflaa
