/-
 Layer 31's laws: Encloses.
-/
import Derived.Test.YthbcljjpmdfflaaEp
namespace Go.Proofs.Ythbcljjpmdfflaa
open Go.RowKit
set_option linter.unusedSimpArgs false
set_option linter.unusedVariables false
set_option maxRecDepth 100000
@[simp] theorem Box.vs_set6 (b : Box) (x : Int) : b.vs.set 6 (.c (.int .i64 x)) = (b.at_ x b.y).vs := by cases b; rfl
theorem fence_cases (f : Font) (names : ByteArray) (b : Box) (p : Int) : (∃ e, e ≠ 0 ∧ fenceR f names b p = (Box.zero, e)) ∨ ∃ L R, L.validB = true ∧ R.validB = true ∧ b.validB = true ∧ fenceR f names b p = (lst29 [L, b.at_ 0 0, R] (pls [L, b.at_ 0 0, R] [0, 0, 0] 0) (endX [L, b.at_ 0 0, R] [0, 0, 0] 0), 0) := by
 unfold fenceR
 split
 · exact .inl ⟨1, by omega, rfl⟩
 · rename_i h0
   simp only [not_or, Bool.not_eq_false] at h0
   split
   · exact .inl ⟨2, by omega, rfl⟩
   · unfold rowR
     split
     · exact .inl ⟨1, by omega, rfl⟩
     · rename_i hk
       split
       · exact .inl ⟨2, by omega, rfl⟩
       · unfold lstR
         split
         · exact .inl ⟨6, by omega, rfl⟩
         · simp only [List.all_cons, List.all_nil, Bool.and_true, Bool.not_eq_false, Bool.and_eq_true] at hk
           exact .inr ⟨_, _, hk.1, hk.2.2, h0.2.1, rfl⟩
structure Encl (b B A0 A1 A2 : Box) (W : Int) : Prop where
 rows : Box.rows B.kids = [A0.row, A1.row, A2.row]
 x0 : A0.x = 0
 w0 : A0.w = W
 e1 : b.at_ W 0 = A1
 x2 : A2.x = W + b.w
 bw : B.w = W + b.w + A2.w
 bh : b.h ≤ B.h
 bd : b.d ≤ B.d
 q0 : -1073741824 ≤ W ∧ W ≤ 1073741824
 q1 : -1073741824 ≤ b.w ∧ b.w ≤ 1073741824
 q2 : -1073741824 ≤ A2.w ∧ A2.w ≤ 1073741824
theorem mx_ge2 (a b : Int) : a ≤ mx a b ∧ b ≤ mx a b := by rw [mx_eq]; omega
theorem encl_of {b L R : Box} (hl : L.validB = true) (hr : R.validB = true) (hb : b.validB = true) : Encl b (lst29 [L, b.at_ 0 0, R] (pls [L, b.at_ 0 0, R] [0, 0, 0] 0) (endX [L, b.at_ 0 0, R] [0, 0, 0] 0)) (L.at_ 0 L.y) (b.at_ L.w 0) (R.at_ (L.w + b.w) R.y) L.w := by
 obtain ⟨l1, _⟩ := valid_len hl
 obtain ⟨r1, _⟩ := valid_len hr
 obtain ⟨b1, _⟩ := valid_len hb
 refine ⟨?_, rfl, rfl, rfl, rfl, ?_, ?_, ?_, l1, b1, r1⟩
 · simp [lst29, listB, plc, pls, Box.rows, at_at]
 · simp [lst29, listB, endX]
 · simp only [lst29, listB, topF, at_hE, at_yE, Int.zero_add]
   have h1 := mx_ge2 (mx (mx 0 (L.y + L.h)) b.h) (R.y + R.h)
   have h2 := mx_ge2 (mx 0 (L.y + L.h)) b.h
   omega
 · simp only [lst29, listB, botF, at_dE, at_yE, Int.sub_zero]
   have h1 := mx_ge2 (mx (mx 0 (L.d - L.y)) b.d) (R.d - R.y)
   have h2 := mx_ge2 (mx 0 (L.d - L.y)) b.d
   omega
set_option maxHeartbeats 6400000 in
theorem lencloses_a (f : Font) (p : Int) (names : ByteArray) (b : Box) (hf : f.Fit) (hn : names.size ≤ maxLen) (hb : b.fit) (ho : b.okk) : AC Try.prog 20 [.agg (cdVs f p), .c (.str names), boxV b] (.c (.bool true)) := by
 have hfw := dfew_a f b hf hb
 simp only [boxV_vs] at hfw ⊢
 by_cases hcn : fewB f = true ∧ b.cnt ≤ 400
 · obtain ⟨hfe, hcn⟩ := hcn
   have hz := few_sz hfe
   have hlw := dlow_a b ho (by omega)
   have hfc := pfence_a f names b p hf hz ho (by omega) hn
   simp only [boxV_vs, boxEV, errV] at hlw hfc
   rcases fence_cases f names b p with ⟨e, he, hY⟩ | ⟨L, R, hl, hr, hbo, hY⟩
   · have hq := requal_a _ zero_fit
     rw [hY] at hfc
     simp only [zero_vs, boxV_vs] at hfc hq
     refine en Try.func20 Try.ntmps20 ?_
     have ff := (cj @he <| Try.results20)
     repeat any_goals (first | refine stW ?_ | exact lfW ff | refine ruW ff ?_ | refine caW ff (awake31_a) ?_ | refine caW ff (hfw) ?_ | refine caW ff (hlw) ?_ | refine caW ff (hfc) ?_ | refine caW ff (hq) ?_ | refine cdW ff ?_ | ((first | refine bdW ff ?_ ?_ | refine bxW ff ?_ ?_ | refine bnW ff ?_ ?_ | refine brW ff ?_ ?_) <;> intro h <;> try (exfalso; omega)))
   · have hE := encl_of hl hr hbo
     rw [hY] at hfc
     obtain ⟨B, hB⟩ : ∃ B, lst29 [L, b.at_ 0 0, R] (pls [L, b.at_ 0 0, R] [0, 0, 0] 0) (endX [L, b.at_ 0 0, R] [0, 0, 0] 0) = B := ⟨_, rfl⟩
     obtain ⟨A0, hA0⟩ : ∃ B, L.at_ 0 L.y = B := ⟨_, rfl⟩
     obtain ⟨A1, hA1⟩ : ∃ B, b.at_ L.w 0 = B := ⟨_, rfl⟩
     obtain ⟨A2, hA2⟩ : ∃ B, R.at_ (L.w + b.w) R.y = B := ⟨_, rfl⟩
     have hq := requal_a A1 (by rw [← hA1]; exact at_fit _ _ hb)
     have ax : A1.x = L.w := by rw [← hA1]; rfl
     have aw : A1.w = b.w := by rw [← hA1]; rfl
     have ah : A1.h = b.h := by rw [← hA1]; rfl
     have ad : A1.d = b.d := by rw [← hA1]; rfl
     rw [hB] at hfc
     rw [hB, hA0, hA1, hA2] at hE
     obtain ⟨W, hW⟩ : ∃ W, L.w = W := ⟨_, rfl⟩
     rw [hW] at hE hA1 ax
     obtain ⟨k1, k2, k3, k4, k5, k6, k7, k8, q0, q1, q2⟩ := hE
     clear hA0 hA2 hY hB hl hr
     have w1 : IntKind.i64.wrap (W + b.w) = W + b.w := wrap_i64 (by omega) (by omega)
     have w2 : IntKind.i64.wrap (W + b.w + A2.w) = W + b.w + A2.w := wrap_i64 (by omega) (by omega)
     simp only [boxV_vs] at hq hfc
     refine en Try.func20 Try.ntmps20 ?_
     have ff := (cj @k1 <| cj @k2 <| cj @k3 <| cj @k4 <| cj @k5 <| cj @k6 <| cj @k7 <| cj @k8 <| cj @ax <| cj @aw <| cj @ah <| cj @ad <| cj @w1 <| cj @w2 <| cj @at_at <| Try.results20)
     repeat any_goals (first | refine stW ?_ | exact lfW ff | refine ruW ff ?_ | refine caW ff (awake31_a) ?_ | refine caW ff (hfw) ?_ | refine caW ff (hlw) ?_ | refine caW ff (hfc) ?_ | refine caW ff (hq) ?_ | refine cdW ff ?_ | ((first | refine bdW ff ?_ ?_ | refine bxW ff ?_ ?_ | refine bnW ff ?_ ?_ | refine brW ff ?_ ?_) <;> intro h <;> try (exfalso; omega)))
 · have e : (fewB f && decide (b.cnt ≤ 400)) = false := by
    cases h : fewB f with
    | false => rfl
    | true => simp only [h, true_and] at hcn; simp [hcn]
   rw [e] at hfw
   refine en Try.func20 Try.ntmps20 ?_
   have ff := (Try.results20)
   repeat any_goals (first | refine stW ?_ | exact lfW ff | refine ruW ff ?_ | refine caW ff (awake31_a) ?_ | refine caW ff (hfw) ?_ | refine cdW ff ?_ | ((first | refine bdW ff ?_ ?_ | refine bxW ff ?_ ?_ | refine bnW ff ?_ ?_ | refine brW ff ?_ ?_) <;> intro h <;> try (exfalso; omega)))
end Go.Proofs.Ythbcljjpmdfflaa
