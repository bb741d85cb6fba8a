/-
 Layer 33's reference on the abstract machine: the least gap, the need, the sign.
-/
import Derived.Test.YthbcljjpmdfflaaDa
import Derived.Test.YthbcljjpmdfflaaGD
import Derived.Test.YthbcljjpmdfflaaG7
namespace Go.Proofs.Ythbcljjpmdfflaa
open Go.RowKit
set_option linter.unusedSimpArgs false
set_option linter.unusedVariables false
set_option maxRecDepth 100000
theorem rleast_a (f : Font) (s : Style) (hv : f.valid = true) (ho : s.ok = true) : AC Try.prog 40 [.agg f.vs, styleV s] (.c (.int .i64 (rdL f s))) := by
 have hp1 := rpar_a f s f.params.rule
 have hp2 := rpar_a f s f.params.xHeight
 have hok := rd_ok (b := Box.zero) hv ho
 obtain ⟨p1, p2, r1, r2, _, _, _, _, _⟩ := hok
 have hL : rdL f s = if s.level = 0 then rdR f s + scale (scale f.params.xHeight (rdP f s)) 25 else rdR f s + scale (rdR f s) 25 := rfl
 have e1 : scale f.params.rule (sizeOf_ f.params s) = rdR f s := rfl
 have e2 : scale f.params.xHeight (sizeOf_ f.params s) = scale f.params.xHeight (rdP f s) := rfl
 rw [e1] at hp1
 rw [e2] at hp2
 obtain ⟨X, hX⟩ : ∃ X, scale f.params.xHeight (rdP f s) = X := ⟨_, rfl⟩
 obtain ⟨R, hR⟩ : ∃ X, rdR f s = X := ⟨_, rfl⟩
 rw [hX] at hp2
 rw [hR] at hp1 r1 r2
 rw [hX, hR] at hL
 rw [hL]
 have h3 := rscale1_a X 25
 have h4 := rscale1_a R 25
 have b3 := scale_any (p := 25) X (by omega) (by omega)
 have b4 := scale_any (p := 25) R (by omega) (by omega)
 have w3 : IntKind.i64.wrap (R + scale X 25) = R + scale X 25 := wrap_i64 (by omega) (by omega)
 have w4 : IntKind.i64.wrap (R + scale R 25) = R + scale R 25 := wrap_i64 (by omega) (by omega)
 unfold styleV at hp1 hp2 ⊢
 by_cases h0 : s.level = 0
 · rw [if_pos h0]
   have h0' : s.level = 0 ↔ True := iff_true_intro h0
   refine en Try.func40 Try.ntmps40 ?_
   refine go0 ?_
   refine gc0 (hp1) Try.func42 ?_
   refine go @h0' ?_
   refine gc0 (hp2) Try.func42 ?_
   refine gc @w3 (h3) Try.func57 ?_
   refine go0 ?_
   simp [aRet, ares, aresL, ares1, V.pub, V.pubs, ldV, Try.results40]
 · rw [if_neg h0]
   refine en Try.func40 Try.ntmps40 ?_
   refine go0 ?_
   refine gc0 (hp1) Try.func42 ?_
   refine go @h0 ?_
   refine gc @w4 (h4) Try.func57 ?_
   refine go0 ?_
   simp [aRet, ares, aresL, ares1, V.pub, V.pubs, ldV, Try.results40]
theorem rneed_a (f : Font) (s : Style) (b : Box) (hv : f.valid = true) (ho : s.ok = true) (hb : b.validB = true) : AC Try.prog 41 [.agg f.vs, styleV s, boxV b] (.c (.int .i64 (rdN f s b))) := by
 have hp1 := rpar_a f s f.params.rule
 have hl := rleast_a f s hv ho
 obtain ⟨p1, p2, r1, r2, l1, l2, _, _, _⟩ := rd_ok (b := b) hv ho
 obtain ⟨b1, b2, b3, _⟩ := valid_len hb
 have hN : rdN f s b = b.h + b.d + rdL f s + rdR f s := rfl
 have e1 : scale f.params.rule (sizeOf_ f.params s) = rdR f s := rfl
 rw [e1] at hp1
 rw [hN]
 obtain ⟨R, hR⟩ : ∃ X, rdR f s = X := ⟨_, rfl⟩
 obtain ⟨L, hL⟩ : ∃ X, rdL f s = X := ⟨_, rfl⟩
 rw [hR] at hp1 r1 r2 ⊢
 rw [hL] at hl l1 l2 ⊢
 have w1 : IntKind.i64.wrap (b.h + b.d) = b.h + b.d := wrap_i64 (by omega) (by omega)
 have w2 : IntKind.i64.wrap (b.h + b.d + L) = b.h + b.d + L := wrap_i64 (by omega) (by omega)
 have w3 : IntKind.i64.wrap (b.h + b.d + L + R) = b.h + b.d + L + R := wrap_i64 (by omega) (by omega)
 unfold styleV at hp1 hl ⊢
 rw [boxV_vs]
 refine en Try.func41 Try.ntmps41 ?_
 refine go @w1 ?_
 refine gc @w2 (hl) Try.func40 ?_
 refine gc @w3 (hp1) Try.func42 ?_
 refine go0 ?_
 simp [aRet, ares, aresL, ares1, V.pub, V.pubs, ldV, Try.results41]
theorem rsign_a (f : Font) (s : Style) (b : Box) (hf : f.Fit) (hz : ∀ s ∈ f.stretches, s.sizes.length ≤ 1000) (hv : f.valid = true) (ho : s.ok = true) (hb : b.validB = true) : AC Try.prog 44 [.agg f.vs, styleV s, boxV b] (boxV (rdS f s b)) := by
 have h1 := rneed_a f s b hv ho hb
 have h2 := rstsize_a f s
 have h3 := rfind_v f root_ (rdN f s b) (rdP f s) hf hz
 have e : sizeOf_ f.params s = rdP f s := rfl
 rw [e] at h2
 have hS : (findR f root_ (rdN f s b) (rdP f s)).1 = rdS f s b := rfl
 obtain ⟨q, hq⟩ : ∃ q, findR f root_ (rdN f s b) (rdP f s) = q := ⟨_, rfl⟩
 rw [hq] at h3 hS
 rw [← hS]
 obtain ⟨S, e⟩ := q
 simp only [boxEV, boxV_vs, errV] at h3 h1 ⊢
 unfold styleV at h1 h2 ⊢
 unfold root_ at h3
 refine en Try.func44 Try.ntmps44 ?_
 refine go0 ?_
 refine gc0 (h1) Try.func41 ?_
 refine gc0 (h2) Try.func86 ?_
 refine gc0 (h3) Try.func31 ?_
 refine go0 ?_
 simp [aRet, ares, aresL, ares1, V.pub, V.pubs, ldV, Try.results44]
end Go.Proofs.Ythbcljjpmdfflaa
