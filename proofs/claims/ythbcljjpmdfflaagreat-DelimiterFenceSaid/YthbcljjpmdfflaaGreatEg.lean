/-
 Layer 31 on the abstract machine: Make.
-/
import Derived.Test.YthbcljjpmdfflaaGreatEb
import Derived.Test.YthbcljjpmdfflaaGreatEe
import Derived.Test.YthbcljjpmdfflaaGreatGA
import Derived.Test.YthbcljjpmdfflaaGreatG9
namespace Go.Proofs.YthbcljjpmdfflaaGreat
open Go.RowKit
set_option linter.unusedSimpArgs false
set_option linter.unusedVariables false
set_option maxRecDepth 100000
def dot_ : ByteArray := ⟨#[46]⟩
def dlMake (f : Font) (name : ByteArray) (need p : Int) : Box × Int :=
 if f.valid = false ∨ nameB name = false then (Box.zero, 1)
 else if p < 1 ∨ 100 < p then (Box.zero, 2)
 else if name = dot_ then (listB 0 0 0 [], 0)
 else centerR (findR f name need p).1 (dlAxis f p)
theorem name_le {s : ByteArray} (h : nameB s = true) : s.size ≤ 16 := by simp [nameB] at h; omega
set_option maxHeartbeats 1600000 in
theorem pmk31_a (f : Font) (name : ByteArray) (need p : Int) (hf : f.Fit) (hn : name.size ≤ maxLen) (hz : ∀ s ∈ f.stretches, s.sizes.length ≤ 1000) : AC Tryz.prog 11 [.agg f.vs, .c (.str name), .c (.int .i64 need), .c (.int .i64 p)] (boxEV (dlMake f name need p)) := by
 have hfv := fvalid_a f
 have hnv := dnamed_a name
 cases hv : f.valid with
 | false =>
   have e : dlMake f name need p = (Box.zero, 1) := if_pos (.inl hv)
   rw [e]
   rw [hv] at hfv
   simp only [boxEV, boxV_vs, errV]
   refine en Tryz.func11 Tryz.ntmps11 ?_
   refine go0 ?_
   refine gc0 (hfv) Tryz.func17 ?_
   refine go0 ?_
   simp [aRet, ares, aresL, ares1, V.pub, V.pubs, ldV, Tryz.results11, zero_vs]
 | true =>
   rw [hv] at hfv
   cases hb : nameB name with
   | false =>
     have e : dlMake f name need p = (Box.zero, 1) := if_pos (.inr hb)
     rw [e]
     rw [hb] at hnv
     simp only [boxEV, boxV_vs, errV]
     refine en Tryz.func11 Tryz.ntmps11 ?_
     refine go0 ?_
     refine gc0 (hfv) Tryz.func17 ?_
     refine gc0 (hnv) Tryz.func29 ?_
     refine go0 ?_
     simp [aRet, ares, aresL, ares1, V.pub, V.pubs, ldV, Tryz.results11, zero_vs]
   | true =>
     rw [hb] at hnv
     have e1 : dlMake f name need p = if p < 1 ∨ 100 < p then (Box.zero, 2) else if name = dot_ then (listB 0 0 0 [], 0) else centerR (findR f name need p).1 (dlAxis f p) := if_neg (by simp [hv, hb])
     rw [e1]
     by_cases h1 : p < 1
     · rw [if_pos (.inl h1)]
       simp only [boxEV, boxV_vs, errV]
       refine en Tryz.func11 Tryz.ntmps11 ?_
       refine go0 ?_
       refine gc0 (hfv) Tryz.func17 ?_
       refine gc0 (hnv) Tryz.func29 ?_
       refine go @h1 ?_
       simp [aRet, ares, aresL, ares1, V.pub, V.pubs, ldV, Tryz.results11, zero_vs]
     · by_cases h2 : 100 < p
       · rw [if_pos (.inr h2)]
         simp only [boxEV, boxV_vs, errV]
         refine en Tryz.func11 Tryz.ntmps11 ?_
         refine go0 ?_
         refine gc0 (hfv) Tryz.func17 ?_
         refine gc0 (hnv) Tryz.func29 ?_
         refine go (cj @h1 <| @h2) ?_
         simp [aRet, ares, aresL, ares1, V.pub, V.pubs, ldV, Tryz.results11, zero_vs]
       · rw [if_neg (by omega)]
         by_cases h3 : name = dot_
         · rw [if_pos h3]
           have h3' : name = ⟨#[46]⟩ ↔ True := iff_true_intro h3
           have hl := plist_a 0 0 0 [] trivial (by simp [Box.cnts])
           simp only [boxEV, boxV_vs, errV, Box.rows] at hl ⊢
           refine en Tryz.func11 Tryz.ntmps11 ?_
           refine go0 ?_
           refine gc0 (hfv) Tryz.func17 ?_
           refine gc0 (hnv) Tryz.func29 ?_
           refine go (cj @h1 <| cj @h2 <| @h3') ?_
           refine gc0 (hl) Tryz.func30 ?_
           refine go0 ?_
           simp [aRet, ares, aresL, ares1, V.pub, V.pubs, ldV, Tryz.results11]
         · rw [if_neg h3]
           have h3' : ¬ name = ⟨#[46]⟩ := h3
           have hfi := vFind_a vasm_a f name need p hf
           obtain ⟨q1, q2⟩ := find_ok hv (by omega) (by omega) (name_le hb) need (p := p)
           have hfe : findR f name need p = ((findR f name need p).1, 0) := Prod.ext rfl q1
           rw [hfe] at hfi
           obtain ⟨S, hS⟩ : ∃ S, (findR f name need p).1 = S := ⟨_, rfl⟩
           rw [hS] at hfi q2 ⊢
           have hax := scale_a f.params.axis p
           have eA : scale f.params.axis p = dlAxis f p := rfl
           rw [eA] at hax
           have hce := pcenter_a S (dlAxis f p) q2.okk (by have := q2.cnt; omega)
           obtain ⟨A, hA⟩ : ∃ A, dlAxis f p = A := ⟨_, rfl⟩
           rw [hA] at hax hce ⊢
           obtain ⟨Y, hY⟩ : ∃ Y, centerR S A = Y := ⟨_, rfl⟩
           rw [hY] at hce ⊢
           simp only [boxEV, boxV_vs, errV] at hfi hce ⊢
           refine en Tryz.func11 Tryz.ntmps11 ?_
           refine go0 ?_
           refine gc0 (hfv) Tryz.func17 ?_
           refine gc0 (hnv) Tryz.func29 ?_
           refine go (cj @h1 <| cj @h2 <| @h3') ?_
           refine gc0 (hfi) Tryz.func31 ?_
           refine go0 ?_
           refine gc0 (hax) Tryz.func33 ?_
           refine gc0 (hce) Tryz.func32 ?_
           refine go0 ?_
           simp [aRet, ares, aresL, ares1, V.pub, V.pubs, ldV, Tryz.results11]
set_option maxHeartbeats 1600000 in
theorem rmk31_a (f : Font) (name : ByteArray) (need p : Int) (hf : f.Fit) (hn : name.size ≤ maxLen) (hz : ∀ s ∈ f.stretches, s.sizes.length ≤ 1000) : AC Tryz.prog 26 [.agg f.vs, .c (.str name), .c (.int .i64 need), .c (.int .i64 p)] (boxEV (dlMake f name need p)) := by
 have hfv := rvalid_a f hf
 have hnv := name_a name hn
 cases hv : f.valid with
 | false =>
   have e : dlMake f name need p = (Box.zero, 1) := if_pos (.inl hv)
   rw [e]
   rw [hv] at hfv
   simp only [boxEV, boxV_vs, errV]
   refine en Tryz.func26 Tryz.ntmps26 ?_
   refine go0 ?_
   refine gc0 (hfv) Tryz.func23 ?_
   refine go0 ?_
   simp [aRet, ares, aresL, ares1, V.pub, V.pubs, ldV, Tryz.results26, zero_vs]
 | true =>
   rw [hv] at hfv
   cases hb : nameB name with
   | false =>
     have e : dlMake f name need p = (Box.zero, 1) := if_pos (.inr hb)
     rw [e]
     rw [hb] at hnv
     simp only [boxEV, boxV_vs, errV]
     refine en Tryz.func26 Tryz.ntmps26 ?_
     refine go0 ?_
     refine gc0 (hfv) Tryz.func23 ?_
     refine gc0 (hnv) Tryz.func55 ?_
     refine go0 ?_
     simp [aRet, ares, aresL, ares1, V.pub, V.pubs, ldV, Tryz.results26, zero_vs]
   | true =>
     rw [hb] at hnv
     have e1 : dlMake f name need p = if p < 1 ∨ 100 < p then (Box.zero, 2) else if name = dot_ then (listB 0 0 0 [], 0) else centerR (findR f name need p).1 (dlAxis f p) := if_neg (by simp [hv, hb])
     rw [e1]
     by_cases h1 : p < 1
     · rw [if_pos (.inl h1)]
       simp only [boxEV, boxV_vs, errV]
       refine en Tryz.func26 Tryz.ntmps26 ?_
       refine go0 ?_
       refine gc0 (hfv) Tryz.func23 ?_
       refine gc0 (hnv) Tryz.func55 ?_
       refine go @h1 ?_
       simp [aRet, ares, aresL, ares1, V.pub, V.pubs, ldV, Tryz.results26, zero_vs]
     · by_cases h2 : 100 < p
       · rw [if_pos (.inr h2)]
         simp only [boxEV, boxV_vs, errV]
         refine en Tryz.func26 Tryz.ntmps26 ?_
         refine go0 ?_
         refine gc0 (hfv) Tryz.func23 ?_
         refine gc0 (hnv) Tryz.func55 ?_
         refine go (cj @h1 <| @h2) ?_
         simp [aRet, ares, aresL, ares1, V.pub, V.pubs, ldV, Tryz.results26, zero_vs]
       · rw [if_neg (by omega)]
         by_cases h3 : name = dot_
         · rw [if_pos h3]
           have h3' : name = ⟨#[46]⟩ ↔ True := iff_true_intro h3
           have hl : (listB 0 0 0 []).vs = [.c (.int .i64 3), .c (.str ⟨#[]⟩), .c (.int .i64 0), .c (.int .i64 0), .c (.int .i64 0), .c (.int .i64 0), .c (.int .i64 0), .c (.int .i64 0), .c (.sl []), .c (.int .i64 0), .c (.sl [])] := rfl
           simp only [boxEV, boxV_vs, errV, hl]
           refine en Tryz.func26 Tryz.ntmps26 ?_
           refine go0 ?_
           refine gc0 (hfv) Tryz.func23 ?_
           refine gc0 (hnv) Tryz.func55 ?_
           refine go (cj @h1 <| cj @h2 <| @h3') ?_
           simp [aRet, ares, aresL, ares1, V.pub, V.pubs, ldV, Tryz.results26]
         · rw [if_neg h3]
           have h3' : ¬ name = ⟨#[46]⟩ := h3
           have hfi := rfind_v f name need p hf hz
           obtain ⟨q1, q2⟩ := find_ok hv (by omega) (by omega) (name_le hb) need (p := p)
           have hfe : findR f name need p = ((findR f name need p).1, 0) := Prod.ext rfl q1
           rw [hfe] at hfi
           obtain ⟨S, hS⟩ : ∃ S, (findR f name need p).1 = S := ⟨_, rfl⟩
           rw [hS] at hfi q2 ⊢
           have hax := raxis_a f p
           have hce := rcenter_a S (dlAxis f p) q2.okk (by have := q2.cnt; omega)
           obtain ⟨A, hA⟩ : ∃ A, dlAxis f p = A := ⟨_, rfl⟩
           rw [hA] at hax hce ⊢
           obtain ⟨Y, hY⟩ : ∃ Y, centerR S A = Y := ⟨_, rfl⟩
           rw [hY] at hce ⊢
           simp only [boxEV, boxV_vs, errV] at hfi hce ⊢
           refine en Tryz.func26 Tryz.ntmps26 ?_
           refine go0 ?_
           refine gc0 (hfv) Tryz.func23 ?_
           refine gc0 (hnv) Tryz.func55 ?_
           refine go (cj @h1 <| cj @h2 <| @h3') ?_
           refine gc0 (hfi) Tryz.func56 ?_
           refine go0 ?_
           refine gc0 (hax) Tryz.func58 ?_
           refine gc0 (hce) Tryz.func57 ?_
           refine go0 ?_
           simp [aRet, ares, aresL, ares1, V.pub, V.pubs, ldV, Tryz.results26]
end Go.Proofs.YthbcljjpmdfflaaGreat
