/-
 Layer 31, plain, and its small functions on the abstract machine: the middle of a box, the need.
-/
import Derived.Test.YthbcljjpmdfflaaGreatDz
namespace Go.Proofs.YthbcljjpmdfflaaGreat
open Go.RowKit
set_option linter.unusedSimpArgs false
set_option linter.unusedVariables false
set_option maxRecDepth 100000
def dlAxis (f : Font) (p : Int) : Int := scale f.params.axis p
def dlReach (f : Font) (b : Box) (p : Int) : Int := mx (mx 0 (b.h - dlAxis f p)) (b.d + dlAxis f p)
def dlNeed (f : Font) (b : Box) (p : Int) : Int :=
 if f.valid = false ∨ b.validB = false ∨ p < 1 ∨ 100 < p then 0
 else if 536870912 < dlReach f b p then 0
 else mx (scale (2 * dlReach f b p) f.params.delimPercent) (2 * dlReach f b p - scale f.params.delimShort p)
def centerR (b : Box) (a : Int) : Box × Int :=
 if b.validB = false then (Box.zero, 1)
 else if lenValid a = false ∨ lenValid (b.h - b.d) = false then (Box.zero, 2)
 else if lenValid (a - half (b.h - b.d)) = false then (Box.zero, 6)
 else (b.at_ b.x (a - half (b.h - b.d)), 0)
theorem at_valid {b : Box} (h : b.validB = true) (y : Int) : (b.at_ b.x y).validB = lenValid y := by
 obtain ⟨bk, bn, bs, bw, bh, bd, bx, by_, bkids, bo, bsrc⟩ := b
 simp only [Box.validB, Bool.and_eq_true, decide_eq_true_eq] at h
 obtain ⟨h1, h2, h3⟩ := h
 simp only [Box.propB, Box.ownB, Box.lens, Bool.and_eq_true, List.all_cons, List.all_nil] at h1
 obtain ⟨⟨⟨l1, l2, l3, l4, l5, _⟩, k1, k2⟩, h4⟩ := h1
 have k1' : Box.kindB ⟨bk, bn, bs, bw, bh, bd, bx, y, bkids, bo, bsrc⟩ = true := k1
 have k2' : Box.srcB ⟨bk, bn, bs, bw, bh, bd, bx, y, bkids, bo, bsrc⟩ = true := k2
 have h2' : Box.cnt ⟨bk, bn, bs, bw, bh, bd, bx, y, bkids, bo, bsrc⟩ ≤ 20000 := h2
 have h3' : Box.nest ⟨bk, bn, bs, bw, bh, bd, bx, y, bkids, bo, bsrc⟩ ≤ 100 := h3
 have ho : Box.ownB ⟨bk, bn, bs, bw, bh, bd, bx, y, bkids, bo, bsrc⟩ = lenValid y := by
  unfold Box.ownB
  rw [k1', k2']
  simp only [Box.lens, List.all_cons, List.all_nil, l1, l2, l3, l4, Bool.true_and, Bool.and_true]
 have hp : Box.propB ⟨bk, bn, bs, bw, bh, bd, bx, y, bkids, bo, bsrc⟩ = lenValid y := by
  show (Box.ownB ⟨bk, bn, bs, bw, bh, bd, bx, y, bkids, bo, bsrc⟩ && Box.propsB bkids) = _
  rw [ho, h4, Bool.and_true]
 show (Box.propB ⟨bk, bn, bs, bw, bh, bd, bx, y, bkids, bo, bsrc⟩ && (decide (Box.cnt ⟨bk, bn, bs, bw, bh, bd, bx, y, bkids, bo, bsrc⟩ ≤ 20000) && decide (Box.nest ⟨bk, bn, bs, bw, bh, bd, bx, y, bkids, bo, bsrc⟩ ≤ 100))) = _
 rw [hp, decide_eq_true h2', decide_eq_true h3', Bool.and_self, Bool.and_true]
@[simp] theorem Box.vs_set7 (b : Box) (y : Int) : b.vs.set 7 (.c (.int .i64 y)) = (b.at_ b.x y).vs := by cases b; rfl
@[simp] theorem at_wE (b : Box) (x y : Int) : (b.at_ x y).w = b.w := rfl
@[simp] theorem at_hE (b : Box) (x y : Int) : (b.at_ x y).h = b.h := rfl
@[simp] theorem at_dE (b : Box) (x y : Int) : (b.at_ x y).d = b.d := rfl
@[simp] theorem at_xE (b : Box) (x y : Int) : (b.at_ x y).x = x := rfl
@[simp] theorem at_yE (b : Box) (x y : Int) : (b.at_ x y).y = y := rfl
set_option maxHeartbeats 1600000 in
theorem pcenter_a (b : Box) (a : Int) (ho : b.okk) (hc : b.cnt ≤ 900000) : AC Tryz.prog 32 [boxV b, .c (.int .i64 a)] (boxEV (centerR b a)) := by
 have hbv := pValid_a b ho (by omega)
 cases hv : b.validB with
 | false =>
   have e : centerR b a = (Box.zero, 1) := if_pos hv
   rw [e]
   rw [hv] at hbv
   simp only [boxEV, boxV_vs, errV] at hbv ⊢
   refine en Tryz.func32 Tryz.ntmps32 ?_
   refine go0 ?_
   refine gc0 (hbv) Tryz.func18 ?_
   refine go0 ?_
   simp [aRet, ares, aresL, ares1, V.pub, V.pubs, ldV, Tryz.results32, zero_vs]
 | true =>
   rw [hv] at hbv
   obtain ⟨bw, bh, bd, bc⟩ := valid_len hv
   have hl1 := lvalid_a a
   have hl2 := lvalid_a (b.h - b.d)
   have w1 : IntKind.i64.wrap (b.h - b.d) = b.h - b.d := wrap_i64 (by omega) (by omega)
   cases ha : lenValid a with
   | false =>
     have e : centerR b a = (Box.zero, 2) := by unfold centerR; rw [if_neg (by simp [hv]), if_pos (.inl ha)]
     rw [e]
     rw [ha] at hl1
     simp only [boxEV, boxV_vs, errV] at hbv ⊢
     refine en Tryz.func32 Tryz.ntmps32 ?_
     refine go0 ?_
     refine gc0 (hbv) Tryz.func18 ?_
     refine go0 ?_
     refine gc0 (hl1) Tryz.func47 ?_
     refine go0 ?_
     simp [aRet, ares, aresL, ares1, V.pub, V.pubs, ldV, Tryz.results32, zero_vs]
   | true =>
     rw [ha] at hl1
     cases hd : lenValid (b.h - b.d) with
     | false =>
       have e : centerR b a = (Box.zero, 2) := by unfold centerR; rw [if_neg (by simp [hv]), if_pos (.inr hd)]
       rw [e]
       rw [hd] at hl2
       simp only [boxEV, boxV_vs, errV] at hbv ⊢
       refine en Tryz.func32 Tryz.ntmps32 ?_
       refine go0 ?_
       refine gc0 (hbv) Tryz.func18 ?_
       refine go0 ?_
       refine gc @w1 (hl1) Tryz.func47 ?_
       refine gc0 (hl2) Tryz.func47 ?_
       refine go0 ?_
       simp [aRet, ares, aresL, ares1, V.pub, V.pubs, ldV, Tryz.results32, zero_vs]
     | true =>
       rw [hd] at hl2
       have hb2 := half_any (b.h - b.d)
       have hhf := phalf_a (b.h - b.d)
       simp [lenValid] at ha
       have hav : lenValid a = true := by simp [lenValid]; omega
       have hdeep := deep_a b (valid_dok hv) (by omega)
       have hm := at_valid hv (a - half (b.h - b.d))
       have hmv := pValid_a (b.at_ b.x (a - half (b.h - b.d))) (at_okk _ _ ho) (by rw [at_cnt]; omega)
       rw [hm] at hmv
       have e : centerR b a = if lenValid (a - half (b.h - b.d)) = false then (Box.zero, 6) else (b.at_ b.x (a - half (b.h - b.d)), 0) := by unfold centerR; rw [if_neg (by simp [hv]), if_neg (by simp [hav, hd])]
       rw [e]
       obtain ⟨Hf, hHf⟩ : ∃ z, half (b.h - b.d) = z := ⟨_, rfl⟩
       rw [hHf] at hb2 hhf hmv ⊢
       have w2 : IntKind.i64.wrap (a - Hf) = a - Hf := wrap_i64 (by omega) (by omega)
       cases hy : lenValid (a - Hf) with
       | false =>
         rw [if_pos rfl]
         rw [hy] at hmv
         simp only [boxEV, boxV_vs, errV] at hbv hdeep hmv ⊢
         refine en Tryz.func32 Tryz.ntmps32 ?_
         refine go0 ?_
         refine gc0 (hbv) Tryz.func18 ?_
         refine go0 ?_
         refine gc @w1 (hl1) Tryz.func47 ?_
         refine gc0 (hl2) Tryz.func47 ?_
         refine go0 ?_
         refine gc0 (hdeep) Tryz.func63 ?_
         refine go @w1 ?_
         refine gc @w2 (hhf) Tryz.func67 ?_
         refine go0 ?_
         refine gc0 (hmv) Tryz.func18 ?_
         refine go0 ?_
         simp [aRet, ares, aresL, ares1, V.pub, V.pubs, ldV, Tryz.results32, zero_vs]
       | true =>
         rw [if_neg (by simp)]
         rw [hy] at hmv
         simp only [boxEV, boxV_vs, errV] at hbv hdeep hmv ⊢
         refine en Tryz.func32 Tryz.ntmps32 ?_
         refine go0 ?_
         refine gc0 (hbv) Tryz.func18 ?_
         refine go0 ?_
         refine gc @w1 (hl1) Tryz.func47 ?_
         refine gc0 (hl2) Tryz.func47 ?_
         refine go0 ?_
         refine gc0 (hdeep) Tryz.func63 ?_
         refine go @w1 ?_
         refine gc @w2 (hhf) Tryz.func67 ?_
         refine go0 ?_
         refine gc0 (hmv) Tryz.func18 ?_
         refine go0 ?_
         simp [aRet, ares, aresL, ares1, V.pub, V.pubs, ldV, Tryz.results32]
end Go.Proofs.YthbcljjpmdfflaaGreat
