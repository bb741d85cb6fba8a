/-
  Layer 6's reference on the abstract machine: tall, Choose, Height.
-/
import Derived.Test.YthbcljjpmdfflaaVa
namespace Go.Proofs.Ythbcljjpmdfflaa
open Go.RowKit
set_option linter.unusedSimpArgs false
set_option linter.unusedVariables false
set_option maxRecDepth 100000

theorem sizedR_eq {f : Font} (hv : f.valid = true) {p : Int} (h1 : 1 ≤ p) (h2 : p ≤ 100) (name : ByteArray) : sizedR f name p = (glyphBox ((f.pick name).scaled p) p, 0) ∧ scaledR (f.pick name) p = ((f.pick name).scaled p, 0) := by
  have hs := pick_small hv name
  have e : scaledR (f.pick name) p = ((f.pick name).scaled p, 0) := by
    unfold scaledR
    rw [if_neg (by simp [inB]; omega), if_neg]
    unfold Glyph.Small at hs
    simp [inB, Glyph.mets]
    omega
  unfold sizedR
  rw [e]
  simp
theorem scaled_b {f : Font} (hv : f.valid = true) {p : Int} (h1 : 1 ≤ p) (h2 : p ≤ 100) (name : ByteArray) : (-200000 ≤ ((f.pick name).scaled p).w ∧ ((f.pick name).scaled p).w ≤ 200000) ∧ (-200000 ≤ ((f.pick name).scaled p).h ∧ ((f.pick name).scaled p).h ≤ 200000) ∧ (-200000 ≤ ((f.pick name).scaled p).d ∧ ((f.pick name).scaled p).d ≤ 200000) ∧ (-200000 ≤ ((f.pick name).scaled p).italic ∧ ((f.pick name).scaled p).italic ≤ 200000) := by
  have hs := pick_small hv name
  unfold Glyph.Small at hs
  exact scaled_small _ _ (by simp [inB]; omega) (by simp [inB, Glyph.mets]; omega)
theorem sized_hd {f : Font} (hv : f.valid = true) {p : Int} (h1 : 1 ≤ p) (h2 : p ≤ 100) (name : ByteArray) : IntKind.i64.wrap ((sizedR f name p).1.h + (sizedR f name p).1.d) = sizeH f name p := by
  obtain ⟨e1, e2⟩ := sizedR_eq hv h1 h2 name
  have := scaled_b hv h1 h2 name
  rw [e1]
  unfold sizeH
  rw [e2]
  exact wrap_i64 (by simp only [glyphBox]; omega) (by simp only [glyphBox]; omega)

theorem tallF_bound (f : Font) (r : Int) (hsm : ∀ name, (f.pick name).Small) (h1 : 1 ≤ r) (h2 : r ≤ 1000) : ∀ (l : List Part) (h c : Int), h - 40000000 * (l.length : Int) ≤ (tallF f r h c l).1 ∧ (tallF f r h c l).1 ≤ h + 40000000 * (l.length : Int) ∧ c + (l.length : Int) ≤ (tallF f r h c l).2 ∧ (tallF f r h c l).2 ≤ c + 1000 * (l.length : Int)
  | [], h, c => by simp [tallF]
  | q :: l, h, c => by
    have ih := tallF_bound f r hsm h1 h2 l (h + times r q * (f.pick q.name).height) (c + times r q)
    have hs := hsm q.name
    unfold Glyph.Small at hs
    obtain ⟨t1, t2⟩ := times_bound h1 h2 q
    have m := mul_bound (f.pick q.name).height (times r q) 40000 1000 (by unfold Glyph.height; omega) (by unfold Glyph.height; omega) (by omega) t2
    rw [Int.mul_comm (f.pick q.name).height] at m
    simp only [tallF, List.length_cons] at ih ⊢
    simp only [Int.natCast_add, Int.natCast_one] at ih ⊢
    omega
theorem tallI_bound {f : Font} (hv : f.valid = true) {s : Stretch} (hs : s ∈ f.stretches) {r : Int} (h1 : 1 ≤ r) (h2 : r ≤ 1000) : -1000000000 ≤ tallI f s r ∧ tallI f s r ≤ 1000000000 := by
  obtain ⟨_, _, g3, g4, g5, g6⟩ := good_of hv hs
  have := tallF_bound f r (pick_small hv) h1 h2 s.parts 0 0
  have m := mul_bound s.overlap ((tallF f r 0 0 s.parts).2) 60000 8000 (by omega) g5 (by omega) (by omega)
  rw [Int.mul_comm s.overlap] at m
  unfold tallI
  rw [Int.sub_mul]
  omega
theorem rnd_scale {n p : Int} (h1 : -1073741824 ≤ n) (h2 : n ≤ 1073741824) (h3 : 0 ≤ p) (h4 : p ≤ 10000) : rnd (n * p) 100 = scale n p := by
  unfold scale
  rw [if_pos ⟨by simp [lenValid]; omega, by omega, by omega⟩]
theorem rscale_l {n p : Int} (h1 : -1073741824 ≤ n) (h2 : n ≤ 1073741824) (h3 : 0 ≤ p) (h4 : p ≤ 10000) : AC Try.prog 64 [.c (.int .i64 n), .c (.int .i64 p)] (.c (.int .i64 (scale n p))) := by
  rw [← rnd_scale h1 h2 h3 h4]
  exact rscale_a n p (by omega) (by omega) (by omega) (by omega)

/-- the height of a choice -/
def heightI (f : Font) (name : ByteArray) (c : Choice) (p : Int) : Int := if c.rep = 0 then sizeH f c.glyph p else scale (tallI f ((f.stretch name).getD Stretch.zero) c.rep) p

theorem rtall_0 (f : Font) (name g : ByteArray) (p : Int) (hf : f.Fit) (hv : f.valid = true) (hp1 : 1 ≤ p) (hp2 : p ≤ 100) : AC Try.prog 63 [.agg f.vs, .c (.str name), .agg [.c (.str g), .c (.int .i64 0)], .c (.int .i64 p)] (.c (.int .i64 (sizeH f g p))) := by
  have hc := rsize_a f g p hf.gl
  have hw := sized_hd hv hp1 hp2 g
  obtain ⟨b, hq⟩ : ∃ b, (sizedR f g p).1 = b := ⟨_, rfl⟩
  rw [hq] at hc hw
  obtain ⟨k, n, s, w, h, d, x, y, kids, o, src⟩ := b
  simp only [boxV, Box.row, List.map_cons, List.map_nil] at hc hw
  refine AC.intro Try.func63 rfl ?_
  simp only [Try.ntmps63, List.map_cons, List.map_nil, List.length_cons, List.length_nil, Nat.reduceAdd, Nat.reduceSub, List.replicate_succ, List.replicate_zero, List.cons_append, List.nil_append]
  repeat (first
   | (with_reducible first | refine AW.seq ?_ | refine AW.block ?_ | refine aThen_n ?_ | refine aBlk_n ?_ | refine AW.ret ?_ | refine aThen_r ?_ | refine aBlk_r ?_ | refine aops_done ?_ | refine AW.skip ?_ | refine AW.exit ?_ | refine aThen_e ?_ | refine aBlk_hit ?_ | refine AW.label ?_ | refine AW.scope ?_ | refine aNg_n ?_ | refine aNg_r ?_ | refine aNg_e ?_)
   | ((with_reducible refine AW.region ?_); with_reducible refine aops_run (by simp [List.replicate_succ]; first | exact rfl | exact ⟨rfl, rfl⟩) ?_)
   | ((with_reducible refine AW.draw mixedP ?_ ?_); (focus first | exact .inl rfl | exact .inr (by decide)); with_reducible refine adraw_go (by simp [List.replicate_succ]; first | exact rfl | exact ⟨rfl, rfl, rfl⟩) ?_)
   | (with_reducible refine adraw_done (by kernel_rfl) ?_)
   | ((with_reducible refine aBlk_miss ?_ ?_); focus decide)
   | ((with_reducible refine cond_t ?_ ?_); focus (simp [ev]; done))
   | ((with_reducible refine cond_f ?_ ?_); focus (simp [ev]; done)))
  (with_reducible first | refine aops_c (hc) Try.func68 (by kernel_rfl) (by kernel_rfl) ?_ ?_ ?_ | refine adraw_c (hc) Try.func68 (by kernel_rfl) (by kernel_rfl) ?_ ?_ ?_)
  focus (simp [gate]; done)
  focus (simp [pubCall]; done)
  first | (with_reducible refine aops_run (by simp [List.replicate_succ]; first | exact rfl | exact ⟨rfl, rfl⟩) ?_) | (with_reducible refine adraw_go (by simp [List.replicate_succ]; first | exact rfl | exact ⟨rfl, rfl, rfl⟩) ?_)
  repeat (first
   | (with_reducible first | refine AW.seq ?_ | refine AW.block ?_ | refine aThen_n ?_ | refine aBlk_n ?_ | refine AW.ret ?_ | refine aThen_r ?_ | refine aBlk_r ?_ | refine aops_done ?_ | refine AW.skip ?_ | refine AW.exit ?_ | refine aThen_e ?_ | refine aBlk_hit ?_ | refine AW.label ?_ | refine AW.scope ?_ | refine aNg_n ?_ | refine aNg_r ?_ | refine aNg_e ?_)
   | ((with_reducible refine AW.region ?_); with_reducible refine aops_run (by simp [List.replicate_succ, hw]; first | exact rfl | exact ⟨rfl, rfl⟩) ?_)
   | ((with_reducible refine AW.draw mixedP ?_ ?_); (focus first | exact .inl rfl | exact .inr (by decide)); with_reducible refine adraw_go (by simp [List.replicate_succ, hw]; first | exact rfl | exact ⟨rfl, rfl, rfl⟩) ?_)
   | (with_reducible refine adraw_done (by kernel_rfl) ?_)
   | ((with_reducible refine aBlk_miss ?_ ?_); focus decide)
   | ((with_reducible refine cond_t ?_ ?_); focus (simp [ev, hw]; done))
   | ((with_reducible refine cond_f ?_ ?_); focus (simp [ev, hw]; done)))
  simp [aRet, ares, aresL, ares1, V.pub, V.pubs, ldV, Try.results63]

theorem rtall_r (f : Font) (name g : ByteArray) (r p : Int) (s : Stretch) (hf : f.Fit) (hv : f.valid = true) (hp1 : 1 ≤ p) (hp2 : p ≤ 100) (hst : f.stretch name = some s) (hr1 : 1 ≤ r) (hr2 : r ≤ 1000) (hp : s.parts ≠ []) : AC Try.prog 63 [.agg f.vs, .c (.str name), .agg [.c (.str g), .c (.int .i64 r)], .c (.int .i64 p)] (.c (.int .i64 (scale (tallI f s r) p))) := by
  have hs := (stretchO_mem hst).1
  obtain ⟨b1, b2⟩ := tallI_bound hv hs hr1 hr2
  have hr0 : ¬ r = 0 := by omega
  refine AC.intro Try.func63 rfl ?_
  simp only [Try.ntmps63, List.map_cons, List.map_nil, List.length_cons, List.length_nil, Nat.reduceAdd, Nat.reduceSub, List.replicate_succ, List.replicate_zero, List.cons_append, List.nil_append]
  repeat (first
   | (with_reducible first | refine AW.seq ?_ | refine AW.block ?_ | refine aThen_n ?_ | refine aBlk_n ?_ | refine AW.ret ?_ | refine aThen_r ?_ | refine aBlk_r ?_ | refine aops_done ?_ | refine AW.skip ?_ | refine AW.exit ?_ | refine aThen_e ?_ | refine aBlk_hit ?_ | refine AW.label ?_ | refine AW.scope ?_ | refine aNg_n ?_ | refine aNg_r ?_ | refine aNg_e ?_)
   | ((with_reducible refine AW.region ?_); with_reducible refine aops_run (by simp [List.replicate_succ, hr0]; first | exact rfl | exact ⟨rfl, rfl⟩) ?_)
   | ((with_reducible refine AW.draw mixedP ?_ ?_); (focus first | exact .inl rfl | exact .inr (by decide)); with_reducible refine adraw_go (by simp [List.replicate_succ, hr0]; first | exact rfl | exact ⟨rfl, rfl, rfl⟩) ?_)
   | (with_reducible refine adraw_done (by kernel_rfl) ?_)
   | ((with_reducible refine aBlk_miss ?_ ?_); focus decide)
   | ((with_reducible refine cond_t ?_ ?_); focus (simp [ev, hr0]; done))
   | ((with_reducible refine cond_f ?_ ?_); focus (simp [ev, hr0]; done)))
  (with_reducible first | refine aops_c (rstretch_a f name hf.sl) Try.func33 (by kernel_rfl) (by kernel_rfl) ?_ ?_ ?_ | refine adraw_c (rstretch_a f name hf.sl) Try.func33 (by kernel_rfl) (by kernel_rfl) ?_ ?_ ?_)
  focus (simp [gate, foundS, stretchV, Stretch.row, hst]; done)
  focus (simp [pubCall, foundS, stretchV, Stretch.row, hst]; done)
  first | (with_reducible refine aops_run (by simp [List.replicate_succ, foundS, stretchV, Stretch.row, hst]; first | exact rfl | exact ⟨rfl, rfl⟩) ?_) | (with_reducible refine adraw_go (by simp [List.replicate_succ, foundS, stretchV, Stretch.row, hst]; first | exact rfl | exact ⟨rfl, rfl, rfl⟩) ?_)
  repeat (first
   | (with_reducible first | refine AW.seq ?_ | refine AW.block ?_ | refine aThen_n ?_ | refine aBlk_n ?_ | refine AW.ret ?_ | refine aThen_r ?_ | refine aBlk_r ?_ | refine aops_done ?_ | refine AW.skip ?_ | refine AW.exit ?_ | refine aThen_e ?_ | refine aBlk_hit ?_ | refine AW.label ?_ | refine AW.scope ?_ | refine aNg_n ?_ | refine aNg_r ?_ | refine aNg_e ?_)
   | ((with_reducible refine AW.region ?_); with_reducible refine aops_run (by simp [List.replicate_succ]; first | exact rfl | exact ⟨rfl, rfl⟩) ?_)
   | ((with_reducible refine AW.draw mixedP ?_ ?_); (focus first | exact .inl rfl | exact .inr (by decide)); with_reducible refine adraw_go (by simp [List.replicate_succ]; first | exact rfl | exact ⟨rfl, rfl, rfl⟩) ?_)
   | (with_reducible refine adraw_done (by kernel_rfl) ?_)
   | ((with_reducible refine aBlk_miss ?_ ?_); focus decide)
   | ((with_reducible refine cond_t ?_ ?_); focus (simp [ev]; done))
   | ((with_reducible refine cond_f ?_ ?_); focus (simp [ev]; done)))
  (with_reducible first | refine aops_c (rTall_a f s r hf hv hs hr1 hr2 hp) Try.func65 (by kernel_rfl) (by kernel_rfl) ?_ ?_ ?_ | refine adraw_c (rTall_a f s r hf hv hs hr1 hr2 hp) Try.func65 (by kernel_rfl) (by kernel_rfl) ?_ ?_ ?_)
  focus (simp [gate, stretchV, Stretch.row]; done)
  focus (simp [pubCall, stretchV, Stretch.row]; done)
  first | (with_reducible refine aops_run (by simp [List.replicate_succ, stretchV, Stretch.row]; first | exact rfl | exact ⟨rfl, rfl⟩) ?_) | (with_reducible refine adraw_go (by simp [List.replicate_succ, stretchV, Stretch.row]; first | exact rfl | exact ⟨rfl, rfl, rfl⟩) ?_)
  (with_reducible first | refine aops_c (rscale_l (n := tallI f s r) (p := p) (by omega) (by omega) (by omega) (by omega)) Try.func64 (by kernel_rfl) (by kernel_rfl) ?_ ?_ ?_ | refine adraw_c (rscale_l (n := tallI f s r) (p := p) (by omega) (by omega) (by omega) (by omega)) Try.func64 (by kernel_rfl) (by kernel_rfl) ?_ ?_ ?_)
  focus (simp [gate]; done)
  focus (simp [pubCall]; done)
  first | (with_reducible refine aops_run (by simp [List.replicate_succ]; first | exact rfl | exact ⟨rfl, rfl⟩) ?_) | (with_reducible refine adraw_go (by simp [List.replicate_succ]; first | exact rfl | exact ⟨rfl, rfl, rfl⟩) ?_)
  repeat (first
   | (with_reducible first | refine AW.seq ?_ | refine AW.block ?_ | refine aThen_n ?_ | refine aBlk_n ?_ | refine AW.ret ?_ | refine aThen_r ?_ | refine aBlk_r ?_ | refine aops_done ?_ | refine AW.skip ?_ | refine AW.exit ?_ | refine aThen_e ?_ | refine aBlk_hit ?_ | refine AW.label ?_ | refine AW.scope ?_ | refine aNg_n ?_ | refine aNg_r ?_ | refine aNg_e ?_)
   | ((with_reducible refine AW.region ?_); with_reducible refine aops_run (by simp [List.replicate_succ]; first | exact rfl | exact ⟨rfl, rfl⟩) ?_)
   | ((with_reducible refine AW.draw mixedP ?_ ?_); (focus first | exact .inl rfl | exact .inr (by decide)); with_reducible refine adraw_go (by simp [List.replicate_succ]; first | exact rfl | exact ⟨rfl, rfl, rfl⟩) ?_)
   | (with_reducible refine adraw_done (by kernel_rfl) ?_)
   | ((with_reducible refine aBlk_miss ?_ ?_); focus decide)
   | ((with_reducible refine cond_t ?_ ?_); focus (simp [ev]; done))
   | ((with_reducible refine cond_f ?_ ?_); focus (simp [ev]; done)))
  simp [aRet, ares, aresL, ares1, V.pub, V.pubs, ldV, Try.results63]

theorem srch_step (f : Font) (s : Stretch) (p need r : Int) (h1 : 1 ≤ r) (h2 : r < 1000) : srch f s p need (1000 - r).toNat = if need ≤ scale (tallI f s r) p then r else srch f s p need (1000 - (r + 1)).toNat := by
  obtain ⟨n, hn⟩ : ∃ n : Nat, r = 1000 - ((n : Int) + 1) := ⟨(999 - r).toNat, by omega⟩
  subst hn
  have e1 : (1000 - (1000 - ((n : Int) + 1))).toNat = n + 1 := by omega
  have e2 : (1000 - (1000 - ((n : Int) + 1) + 1)).toNat = n := by omega
  rw [e1, e2]
  rfl
def choiceEV (q : Choice × Int) : V := .tup [choiceV q.1, errV q.2]

theorem rheight_v (f : Font) (name : ByteArray) (c : Choice) (p : Int) (hf : f.Fit) (hz : ∀ s ∈ f.stretches, s.sizes.length ≤ 1000) :
    AC Try.prog 28 [.agg f.vs, .c (.str name), choiceV c, .c (.int .i64 p)] (.tup [.c (.int .i64 (if checkR f p ≠ 0 then 0 else if isR f name c = false then 0 else heightI f name c p)), errV (if checkR f p ≠ 0 then checkR f p else if isR f name c = false then 8 else 0)]) := by
  obtain ⟨cg, cr⟩ := c
  by_cases hc : checkR f p = 0
  · have hk := hc
    unfold checkR at hk
    have hv : f.valid = true := by cases h : f.valid <;> simp [h] at hk; rfl
    have hpp : 1 ≤ p ∧ p ≤ 100 := by
      rw [if_neg (by simp [hv])] at hk
      split at hk <;> omega
    cases hi : isR f name ⟨cg, cr⟩ with
    | false =>
      unfold choiceV
      refine AC.intro Try.func28 rfl ?_
      simp only [Try.ntmps28, List.map_cons, List.map_nil, List.length_cons, List.length_nil, Nat.reduceAdd, Nat.reduceSub, List.replicate_succ, List.replicate_zero, List.cons_append, List.nil_append]
      repeat (first
       | (with_reducible first | refine AW.seq ?_ | refine AW.block ?_ | refine aThen_n ?_ | refine aBlk_n ?_ | refine AW.ret ?_ | refine aThen_r ?_ | refine aBlk_r ?_ | refine aops_done ?_ | refine AW.skip ?_ | refine AW.exit ?_ | refine aThen_e ?_ | refine aBlk_hit ?_ | refine AW.label ?_ | refine AW.scope ?_ | refine aNg_n ?_ | refine aNg_r ?_ | refine aNg_e ?_)
       | ((with_reducible refine AW.region ?_); with_reducible refine aops_run (by simp [List.replicate_succ]; first | exact rfl | exact ⟨rfl, rfl⟩) ?_)
       | ((with_reducible refine AW.draw mixedP ?_ ?_); (focus first | exact .inl rfl | exact .inr (by decide)); with_reducible refine adraw_go (by simp [List.replicate_succ]; first | exact rfl | exact ⟨rfl, rfl, rfl⟩) ?_)
       | (with_reducible refine adraw_done (by kernel_rfl) ?_)
       | ((with_reducible refine aBlk_miss ?_ ?_); focus decide)
       | ((with_reducible refine cond_t ?_ ?_); focus (simp [ev]; done))
       | ((with_reducible refine cond_f ?_ ?_); focus (simp [ev]; done)))
      (with_reducible first | refine aops_c (rcheck_a f p hf) Try.func62 (by kernel_rfl) (by kernel_rfl) ?_ ?_ ?_ | refine adraw_c (rcheck_a f p hf) Try.func62 (by kernel_rfl) (by kernel_rfl) ?_ ?_ ?_)
      focus (simp [gate, hc, errV]; done)
      focus (simp [pubCall, hc, errV]; done)
      first | (with_reducible refine aops_run (by simp [List.replicate_succ, hc, errV]; first | exact rfl | exact ⟨rfl, rfl⟩) ?_) | (with_reducible refine adraw_go (by simp [List.replicate_succ, hc, errV]; first | exact rfl | exact ⟨rfl, rfl, rfl⟩) ?_)
      repeat (first
       | (with_reducible first | refine AW.seq ?_ | refine AW.block ?_ | refine aThen_n ?_ | refine aBlk_n ?_ | refine AW.ret ?_ | refine aThen_r ?_ | refine aBlk_r ?_ | refine aops_done ?_ | refine AW.skip ?_ | refine AW.exit ?_ | refine aThen_e ?_ | refine aBlk_hit ?_ | refine AW.label ?_ | refine AW.scope ?_ | refine aNg_n ?_ | refine aNg_r ?_ | refine aNg_e ?_)
       | ((with_reducible refine AW.region ?_); with_reducible refine aops_run (by simp [List.replicate_succ]; first | exact rfl | exact ⟨rfl, rfl⟩) ?_)
       | ((with_reducible refine AW.draw mixedP ?_ ?_); (focus first | exact .inl rfl | exact .inr (by decide)); with_reducible refine adraw_go (by simp [List.replicate_succ]; first | exact rfl | exact ⟨rfl, rfl, rfl⟩) ?_)
       | (with_reducible refine adraw_done (by kernel_rfl) ?_)
       | ((with_reducible refine aBlk_miss ?_ ?_); focus decide)
       | ((with_reducible refine cond_t ?_ ?_); focus (simp [ev]; done))
       | ((with_reducible refine cond_f ?_ ?_); focus (simp [ev]; done)))
      (with_reducible first | refine aops_c (ris_a f name ⟨cg, cr⟩ hf.sl hz) Try.func67 (by kernel_rfl) (by kernel_rfl) ?_ ?_ ?_ | refine adraw_c (ris_a f name ⟨cg, cr⟩ hf.sl hz) Try.func67 (by kernel_rfl) (by kernel_rfl) ?_ ?_ ?_)
      focus (simp [gate, hi, choiceV]; done)
      focus (simp [pubCall, hi, choiceV]; done)
      first | (with_reducible refine aops_run (by simp [List.replicate_succ, hi, choiceV]; first | exact rfl | exact ⟨rfl, rfl⟩) ?_) | (with_reducible refine adraw_go (by simp [List.replicate_succ, hi, choiceV]; first | exact rfl | exact ⟨rfl, rfl, rfl⟩) ?_)
      repeat (first
       | (with_reducible first | refine AW.seq ?_ | refine AW.block ?_ | refine aThen_n ?_ | refine aBlk_n ?_ | refine AW.ret ?_ | refine aThen_r ?_ | refine aBlk_r ?_ | refine aops_done ?_ | refine AW.skip ?_ | refine AW.exit ?_ | refine aThen_e ?_ | refine aBlk_hit ?_ | refine AW.label ?_ | refine AW.scope ?_ | refine aNg_n ?_ | refine aNg_r ?_ | refine aNg_e ?_)
       | ((with_reducible refine AW.region ?_); with_reducible refine aops_run (by simp [List.replicate_succ]; first | exact rfl | exact ⟨rfl, rfl⟩) ?_)
       | ((with_reducible refine AW.draw mixedP ?_ ?_); (focus first | exact .inl rfl | exact .inr (by decide)); with_reducible refine adraw_go (by simp [List.replicate_succ]; first | exact rfl | exact ⟨rfl, rfl, rfl⟩) ?_)
       | (with_reducible refine adraw_done (by kernel_rfl) ?_)
       | ((with_reducible refine aBlk_miss ?_ ?_); focus decide)
       | ((with_reducible refine cond_t ?_ ?_); focus (simp [ev]; done))
       | ((with_reducible refine cond_f ?_ ?_); focus (simp [ev]; done)))
      simp [aRet, ares, aresL, ares1, V.pub, V.pubs, ldV, Try.results28, hc, hi, errV]
    | true =>
      by_cases h0 : cr = 0
      · subst h0
        have e : heightI f name ⟨cg, 0⟩ p = sizeH f cg p := by simp [heightI]
        unfold choiceV
        refine AC.intro Try.func28 rfl ?_
        simp only [Try.ntmps28, List.map_cons, List.map_nil, List.length_cons, List.length_nil, Nat.reduceAdd, Nat.reduceSub, List.replicate_succ, List.replicate_zero, List.cons_append, List.nil_append]
        repeat (first
         | (with_reducible first | refine AW.seq ?_ | refine AW.block ?_ | refine aThen_n ?_ | refine aBlk_n ?_ | refine AW.ret ?_ | refine aThen_r ?_ | refine aBlk_r ?_ | refine aops_done ?_ | refine AW.skip ?_ | refine AW.exit ?_ | refine aThen_e ?_ | refine aBlk_hit ?_ | refine AW.label ?_ | refine AW.scope ?_ | refine aNg_n ?_ | refine aNg_r ?_ | refine aNg_e ?_)
         | ((with_reducible refine AW.region ?_); with_reducible refine aops_run (by simp [List.replicate_succ]; first | exact rfl | exact ⟨rfl, rfl⟩) ?_)
         | ((with_reducible refine AW.draw mixedP ?_ ?_); (focus first | exact .inl rfl | exact .inr (by decide)); with_reducible refine adraw_go (by simp [List.replicate_succ]; first | exact rfl | exact ⟨rfl, rfl, rfl⟩) ?_)
         | (with_reducible refine adraw_done (by kernel_rfl) ?_)
         | ((with_reducible refine aBlk_miss ?_ ?_); focus decide)
         | ((with_reducible refine cond_t ?_ ?_); focus (simp [ev]; done))
         | ((with_reducible refine cond_f ?_ ?_); focus (simp [ev]; done)))
        (with_reducible first | refine aops_c (rcheck_a f p hf) Try.func62 (by kernel_rfl) (by kernel_rfl) ?_ ?_ ?_ | refine adraw_c (rcheck_a f p hf) Try.func62 (by kernel_rfl) (by kernel_rfl) ?_ ?_ ?_)
        focus (simp [gate, hc, errV]; done)
        focus (simp [pubCall, hc, errV]; done)
        first | (with_reducible refine aops_run (by simp [List.replicate_succ, hc, errV]; first | exact rfl | exact ⟨rfl, rfl⟩) ?_) | (with_reducible refine adraw_go (by simp [List.replicate_succ, hc, errV]; first | exact rfl | exact ⟨rfl, rfl, rfl⟩) ?_)
        repeat (first
         | (with_reducible first | refine AW.seq ?_ | refine AW.block ?_ | refine aThen_n ?_ | refine aBlk_n ?_ | refine AW.ret ?_ | refine aThen_r ?_ | refine aBlk_r ?_ | refine aops_done ?_ | refine AW.skip ?_ | refine AW.exit ?_ | refine aThen_e ?_ | refine aBlk_hit ?_ | refine AW.label ?_ | refine AW.scope ?_ | refine aNg_n ?_ | refine aNg_r ?_ | refine aNg_e ?_)
         | ((with_reducible refine AW.region ?_); with_reducible refine aops_run (by simp [List.replicate_succ]; first | exact rfl | exact ⟨rfl, rfl⟩) ?_)
         | ((with_reducible refine AW.draw mixedP ?_ ?_); (focus first | exact .inl rfl | exact .inr (by decide)); with_reducible refine adraw_go (by simp [List.replicate_succ]; first | exact rfl | exact ⟨rfl, rfl, rfl⟩) ?_)
         | (with_reducible refine adraw_done (by kernel_rfl) ?_)
         | ((with_reducible refine aBlk_miss ?_ ?_); focus decide)
         | ((with_reducible refine cond_t ?_ ?_); focus (simp [ev]; done))
         | ((with_reducible refine cond_f ?_ ?_); focus (simp [ev]; done)))
        (with_reducible first | refine aops_c (ris_a f name ⟨cg, 0⟩ hf.sl hz) Try.func67 (by kernel_rfl) (by kernel_rfl) ?_ ?_ ?_ | refine adraw_c (ris_a f name ⟨cg, 0⟩ hf.sl hz) Try.func67 (by kernel_rfl) (by kernel_rfl) ?_ ?_ ?_)
        focus (simp [gate, hi, choiceV]; done)
        focus (simp [pubCall, hi, choiceV]; done)
        first | (with_reducible refine aops_run (by simp [List.replicate_succ, hi, choiceV]; first | exact rfl | exact ⟨rfl, rfl⟩) ?_) | (with_reducible refine adraw_go (by simp [List.replicate_succ, hi, choiceV]; first | exact rfl | exact ⟨rfl, rfl, rfl⟩) ?_)
        repeat (first
         | (with_reducible first | refine AW.seq ?_ | refine AW.block ?_ | refine aThen_n ?_ | refine aBlk_n ?_ | refine AW.ret ?_ | refine aThen_r ?_ | refine aBlk_r ?_ | refine aops_done ?_ | refine AW.skip ?_ | refine AW.exit ?_ | refine aThen_e ?_ | refine aBlk_hit ?_ | refine AW.label ?_ | refine AW.scope ?_ | refine aNg_n ?_ | refine aNg_r ?_ | refine aNg_e ?_)
         | ((with_reducible refine AW.region ?_); with_reducible refine aops_run (by simp [List.replicate_succ]; first | exact rfl | exact ⟨rfl, rfl⟩) ?_)
         | ((with_reducible refine AW.draw mixedP ?_ ?_); (focus first | exact .inl rfl | exact .inr (by decide)); with_reducible refine adraw_go (by simp [List.replicate_succ]; first | exact rfl | exact ⟨rfl, rfl, rfl⟩) ?_)
         | (with_reducible refine adraw_done (by kernel_rfl) ?_)
         | ((with_reducible refine aBlk_miss ?_ ?_); focus decide)
         | ((with_reducible refine cond_t ?_ ?_); focus (simp [ev]; done))
         | ((with_reducible refine cond_f ?_ ?_); focus (simp [ev]; done)))
        (with_reducible first | refine aops_c (rtall_0 f name cg p hf hv hpp.1 hpp.2) Try.func63 (by kernel_rfl) (by kernel_rfl) ?_ ?_ ?_ | refine adraw_c (rtall_0 f name cg p hf hv hpp.1 hpp.2) Try.func63 (by kernel_rfl) (by kernel_rfl) ?_ ?_ ?_)
        focus (simp [gate]; done)
        focus (simp [pubCall]; done)
        first | (with_reducible refine aops_run (by simp [List.replicate_succ]; first | exact rfl | exact ⟨rfl, rfl⟩) ?_) | (with_reducible refine adraw_go (by simp [List.replicate_succ]; first | exact rfl | exact ⟨rfl, rfl, rfl⟩) ?_)
        repeat (first
         | (with_reducible first | refine AW.seq ?_ | refine AW.block ?_ | refine aThen_n ?_ | refine aBlk_n ?_ | refine AW.ret ?_ | refine aThen_r ?_ | refine aBlk_r ?_ | refine aops_done ?_ | refine AW.skip ?_ | refine AW.exit ?_ | refine aThen_e ?_ | refine aBlk_hit ?_ | refine AW.label ?_ | refine AW.scope ?_ | refine aNg_n ?_ | refine aNg_r ?_ | refine aNg_e ?_)
         | ((with_reducible refine AW.region ?_); with_reducible refine aops_run (by simp [List.replicate_succ]; first | exact rfl | exact ⟨rfl, rfl⟩) ?_)
         | ((with_reducible refine AW.draw mixedP ?_ ?_); (focus first | exact .inl rfl | exact .inr (by decide)); with_reducible refine adraw_go (by simp [List.replicate_succ]; first | exact rfl | exact ⟨rfl, rfl, rfl⟩) ?_)
         | (with_reducible refine adraw_done (by kernel_rfl) ?_)
         | ((with_reducible refine aBlk_miss ?_ ?_); focus decide)
         | ((with_reducible refine cond_t ?_ ?_); focus (simp [ev]; done))
         | ((with_reducible refine cond_f ?_ ?_); focus (simp [ev]; done)))
        simp [aRet, ares, aresL, ares1, V.pub, V.pubs, ldV, Try.results28, hc, hi, errV, e]
      · have hi' := hi
        unfold isR at hi'
        cases hst : f.stretch name with
        | none => rw [hst] at hi'; simp [h0] at hi'
        | some s =>
          rw [hst] at hi'
          simp [h0] at hi'
          have e : heightI f name ⟨cg, cr⟩ p = scale (tallI f s cr) p := by simp [heightI, h0, hst]
          have hpn : s.parts ≠ [] := List.length_pos_iff.1 hi'.2.1
          unfold choiceV
          refine AC.intro Try.func28 rfl ?_
          simp only [Try.ntmps28, List.map_cons, List.map_nil, List.length_cons, List.length_nil, Nat.reduceAdd, Nat.reduceSub, List.replicate_succ, List.replicate_zero, List.cons_append, List.nil_append]
          repeat (first
           | (with_reducible first | refine AW.seq ?_ | refine AW.block ?_ | refine aThen_n ?_ | refine aBlk_n ?_ | refine AW.ret ?_ | refine aThen_r ?_ | refine aBlk_r ?_ | refine aops_done ?_ | refine AW.skip ?_ | refine AW.exit ?_ | refine aThen_e ?_ | refine aBlk_hit ?_ | refine AW.label ?_ | refine AW.scope ?_ | refine aNg_n ?_ | refine aNg_r ?_ | refine aNg_e ?_)
           | ((with_reducible refine AW.region ?_); with_reducible refine aops_run (by simp [List.replicate_succ]; first | exact rfl | exact ⟨rfl, rfl⟩) ?_)
           | ((with_reducible refine AW.draw mixedP ?_ ?_); (focus first | exact .inl rfl | exact .inr (by decide)); with_reducible refine adraw_go (by simp [List.replicate_succ]; first | exact rfl | exact ⟨rfl, rfl, rfl⟩) ?_)
           | (with_reducible refine adraw_done (by kernel_rfl) ?_)
           | ((with_reducible refine aBlk_miss ?_ ?_); focus decide)
           | ((with_reducible refine cond_t ?_ ?_); focus (simp [ev]; done))
           | ((with_reducible refine cond_f ?_ ?_); focus (simp [ev]; done)))
          (with_reducible first | refine aops_c (rcheck_a f p hf) Try.func62 (by kernel_rfl) (by kernel_rfl) ?_ ?_ ?_ | refine adraw_c (rcheck_a f p hf) Try.func62 (by kernel_rfl) (by kernel_rfl) ?_ ?_ ?_)
          focus (simp [gate, hc, errV]; done)
          focus (simp [pubCall, hc, errV]; done)
          first | (with_reducible refine aops_run (by simp [List.replicate_succ, hc, errV]; first | exact rfl | exact ⟨rfl, rfl⟩) ?_) | (with_reducible refine adraw_go (by simp [List.replicate_succ, hc, errV]; first | exact rfl | exact ⟨rfl, rfl, rfl⟩) ?_)
          repeat (first
           | (with_reducible first | refine AW.seq ?_ | refine AW.block ?_ | refine aThen_n ?_ | refine aBlk_n ?_ | refine AW.ret ?_ | refine aThen_r ?_ | refine aBlk_r ?_ | refine aops_done ?_ | refine AW.skip ?_ | refine AW.exit ?_ | refine aThen_e ?_ | refine aBlk_hit ?_ | refine AW.label ?_ | refine AW.scope ?_ | refine aNg_n ?_ | refine aNg_r ?_ | refine aNg_e ?_)
           | ((with_reducible refine AW.region ?_); with_reducible refine aops_run (by simp [List.replicate_succ]; first | exact rfl | exact ⟨rfl, rfl⟩) ?_)
           | ((with_reducible refine AW.draw mixedP ?_ ?_); (focus first | exact .inl rfl | exact .inr (by decide)); with_reducible refine adraw_go (by simp [List.replicate_succ]; first | exact rfl | exact ⟨rfl, rfl, rfl⟩) ?_)
           | (with_reducible refine adraw_done (by kernel_rfl) ?_)
           | ((with_reducible refine aBlk_miss ?_ ?_); focus decide)
           | ((with_reducible refine cond_t ?_ ?_); focus (simp [ev]; done))
           | ((with_reducible refine cond_f ?_ ?_); focus (simp [ev]; done)))
          (with_reducible first | refine aops_c (ris_a f name ⟨cg, cr⟩ hf.sl hz) Try.func67 (by kernel_rfl) (by kernel_rfl) ?_ ?_ ?_ | refine adraw_c (ris_a f name ⟨cg, cr⟩ hf.sl hz) Try.func67 (by kernel_rfl) (by kernel_rfl) ?_ ?_ ?_)
          focus (simp [gate, hi, choiceV]; done)
          focus (simp [pubCall, hi, choiceV]; done)
          first | (with_reducible refine aops_run (by simp [List.replicate_succ, hi, choiceV]; first | exact rfl | exact ⟨rfl, rfl⟩) ?_) | (with_reducible refine adraw_go (by simp [List.replicate_succ, hi, choiceV]; first | exact rfl | exact ⟨rfl, rfl, rfl⟩) ?_)
          repeat (first
           | (with_reducible first | refine AW.seq ?_ | refine AW.block ?_ | refine aThen_n ?_ | refine aBlk_n ?_ | refine AW.ret ?_ | refine aThen_r ?_ | refine aBlk_r ?_ | refine aops_done ?_ | refine AW.skip ?_ | refine AW.exit ?_ | refine aThen_e ?_ | refine aBlk_hit ?_ | refine AW.label ?_ | refine AW.scope ?_ | refine aNg_n ?_ | refine aNg_r ?_ | refine aNg_e ?_)
           | ((with_reducible refine AW.region ?_); with_reducible refine aops_run (by simp [List.replicate_succ]; first | exact rfl | exact ⟨rfl, rfl⟩) ?_)
           | ((with_reducible refine AW.draw mixedP ?_ ?_); (focus first | exact .inl rfl | exact .inr (by decide)); with_reducible refine adraw_go (by simp [List.replicate_succ]; first | exact rfl | exact ⟨rfl, rfl, rfl⟩) ?_)
           | (with_reducible refine adraw_done (by kernel_rfl) ?_)
           | ((with_reducible refine aBlk_miss ?_ ?_); focus decide)
           | ((with_reducible refine cond_t ?_ ?_); focus (simp [ev]; done))
           | ((with_reducible refine cond_f ?_ ?_); focus (simp [ev]; done)))
          (with_reducible first | refine aops_c (rtall_r f name cg cr p s hf hv hpp.1 hpp.2 hst (by omega) (by omega) hpn) Try.func63 (by kernel_rfl) (by kernel_rfl) ?_ ?_ ?_ | refine adraw_c (rtall_r f name cg cr p s hf hv hpp.1 hpp.2 hst (by omega) (by omega) hpn) Try.func63 (by kernel_rfl) (by kernel_rfl) ?_ ?_ ?_)
          focus (simp [gate]; done)
          focus (simp [pubCall]; done)
          first | (with_reducible refine aops_run (by simp [List.replicate_succ]; first | exact rfl | exact ⟨rfl, rfl⟩) ?_) | (with_reducible refine adraw_go (by simp [List.replicate_succ]; first | exact rfl | exact ⟨rfl, rfl, rfl⟩) ?_)
          repeat (first
           | (with_reducible first | refine AW.seq ?_ | refine AW.block ?_ | refine aThen_n ?_ | refine aBlk_n ?_ | refine AW.ret ?_ | refine aThen_r ?_ | refine aBlk_r ?_ | refine aops_done ?_ | refine AW.skip ?_ | refine AW.exit ?_ | refine aThen_e ?_ | refine aBlk_hit ?_ | refine AW.label ?_ | refine AW.scope ?_ | refine aNg_n ?_ | refine aNg_r ?_ | refine aNg_e ?_)
           | ((with_reducible refine AW.region ?_); with_reducible refine aops_run (by simp [List.replicate_succ]; first | exact rfl | exact ⟨rfl, rfl⟩) ?_)
           | ((with_reducible refine AW.draw mixedP ?_ ?_); (focus first | exact .inl rfl | exact .inr (by decide)); with_reducible refine adraw_go (by simp [List.replicate_succ]; first | exact rfl | exact ⟨rfl, rfl, rfl⟩) ?_)
           | (with_reducible refine adraw_done (by kernel_rfl) ?_)
           | ((with_reducible refine aBlk_miss ?_ ?_); focus decide)
           | ((with_reducible refine cond_t ?_ ?_); focus (simp [ev]; done))
           | ((with_reducible refine cond_f ?_ ?_); focus (simp [ev]; done)))
          simp [aRet, ares, aresL, ares1, V.pub, V.pubs, ldV, Try.results28, hc, hi, errV, e]
  · unfold choiceV
    refine AC.intro Try.func28 rfl ?_
    simp only [Try.ntmps28, List.map_cons, List.map_nil, List.length_cons, List.length_nil, Nat.reduceAdd, Nat.reduceSub, List.replicate_succ, List.replicate_zero, List.cons_append, List.nil_append]
    repeat (first
     | (with_reducible first | refine AW.seq ?_ | refine AW.block ?_ | refine aThen_n ?_ | refine aBlk_n ?_ | refine AW.ret ?_ | refine aThen_r ?_ | refine aBlk_r ?_ | refine aops_done ?_ | refine AW.skip ?_ | refine AW.exit ?_ | refine aThen_e ?_ | refine aBlk_hit ?_ | refine AW.label ?_ | refine AW.scope ?_ | refine aNg_n ?_ | refine aNg_r ?_ | refine aNg_e ?_)
     | ((with_reducible refine AW.region ?_); with_reducible refine aops_run (by simp [List.replicate_succ]; first | exact rfl | exact ⟨rfl, rfl⟩) ?_)
     | ((with_reducible refine AW.draw mixedP ?_ ?_); (focus first | exact .inl rfl | exact .inr (by decide)); with_reducible refine adraw_go (by simp [List.replicate_succ]; first | exact rfl | exact ⟨rfl, rfl, rfl⟩) ?_)
     | (with_reducible refine adraw_done (by kernel_rfl) ?_)
     | ((with_reducible refine aBlk_miss ?_ ?_); focus decide)
     | ((with_reducible refine cond_t ?_ ?_); focus (simp [ev]; done))
     | ((with_reducible refine cond_f ?_ ?_); focus (simp [ev]; done)))
    (with_reducible first | refine aops_c (rcheck_a f p hf) Try.func62 (by kernel_rfl) (by kernel_rfl) ?_ ?_ ?_ | refine adraw_c (rcheck_a f p hf) Try.func62 (by kernel_rfl) (by kernel_rfl) ?_ ?_ ?_)
    focus (simp [gate, errV]; done)
    focus (simp [pubCall, errV]; done)
    first | (with_reducible refine aops_run (by simp [List.replicate_succ, errV]; first | exact rfl | exact ⟨rfl, rfl⟩) ?_) | (with_reducible refine adraw_go (by simp [List.replicate_succ, errV]; first | exact rfl | exact ⟨rfl, rfl, rfl⟩) ?_)
    repeat (first
     | (with_reducible first | refine AW.seq ?_ | refine AW.block ?_ | refine aThen_n ?_ | refine aBlk_n ?_ | refine AW.ret ?_ | refine aThen_r ?_ | refine aBlk_r ?_ | refine aops_done ?_ | refine AW.skip ?_ | refine AW.exit ?_ | refine aThen_e ?_ | refine aBlk_hit ?_ | refine AW.label ?_ | refine AW.scope ?_ | refine aNg_n ?_ | refine aNg_r ?_ | refine aNg_e ?_)
     | ((with_reducible refine AW.region ?_); with_reducible refine aops_run (by simp [List.replicate_succ, hc]; first | exact rfl | exact ⟨rfl, rfl⟩) ?_)
     | ((with_reducible refine AW.draw mixedP ?_ ?_); (focus first | exact .inl rfl | exact .inr (by decide)); with_reducible refine adraw_go (by simp [List.replicate_succ, hc]; first | exact rfl | exact ⟨rfl, rfl, rfl⟩) ?_)
     | (with_reducible refine adraw_done (by kernel_rfl) ?_)
     | ((with_reducible refine aBlk_miss ?_ ?_); focus decide)
     | ((with_reducible refine cond_t ?_ ?_); focus (simp [ev, hc]; done))
     | ((with_reducible refine cond_f ?_ ?_); focus (simp [ev, hc]; done)))
    simp [aRet, ares, aresL, ares1, V.pub, V.pubs, ldV, Try.results28, hc, errV]

set_option maxHeartbeats 1600000 in
theorem rchoose_a (f : Font) (name : ByteArray) (need p : Int) (hf : f.Fit) : AC Try.prog 24 [.agg f.vs, .c (.str name), .c (.int .i64 need), .c (.int .i64 p)] (choiceEV (chooseR f name need p)) := by
  by_cases hc : checkR f p = 0
  · have hk := hc
    unfold checkR at hk
    have hv : f.valid = true := by cases h : f.valid <;> simp [h] at hk; rfl
    have hpp : 1 ≤ p ∧ p ≤ 100 := by
      rw [if_neg (by simp [hv])] at hk
      split at hk <;> omega
    have hR : chooseR f name need p = (chooseI f name need p, 0) := by unfold chooseR; rw [if_neg (by simp [hc])]
    cases hst : f.stretch name with
    | none =>
      have hR2 : chooseI f name need p = ⟨name, 0⟩ := by unfold chooseI; rw [hst]
      rw [hR2] at hR
      refine AC.intro Try.func24 rfl ?_
      simp only [Try.ntmps24, List.map_cons, List.map_nil, List.length_cons, List.length_nil, Nat.reduceAdd, Nat.reduceSub, List.replicate_succ, List.replicate_zero, List.cons_append, List.nil_append]
      repeat (first
       | (with_reducible first | refine AW.seq ?_ | refine AW.block ?_ | refine aThen_n ?_ | refine aBlk_n ?_ | refine AW.ret ?_ | refine aThen_r ?_ | refine aBlk_r ?_ | refine aops_done ?_ | refine AW.skip ?_ | refine AW.exit ?_ | refine aThen_e ?_ | refine aBlk_hit ?_ | refine AW.label ?_ | refine AW.scope ?_ | refine aNg_n ?_ | refine aNg_r ?_ | refine aNg_e ?_)
       | ((with_reducible refine AW.region ?_); with_reducible refine aops_run (by simp [List.replicate_succ]; first | exact rfl | exact ⟨rfl, rfl⟩) ?_)
       | ((with_reducible refine AW.draw mixedP ?_ ?_); (focus first | exact .inl rfl | exact .inr (by decide)); with_reducible refine adraw_go (by simp [List.replicate_succ]; first | exact rfl | exact ⟨rfl, rfl, rfl⟩) ?_)
       | (with_reducible refine adraw_done (by kernel_rfl) ?_)
       | ((with_reducible refine aBlk_miss ?_ ?_); focus decide)
       | ((with_reducible refine cond_t ?_ ?_); focus (simp [ev]; done))
       | ((with_reducible refine cond_f ?_ ?_); focus (simp [ev]; done)))
      (with_reducible first | refine aops_c (rcheck_a f p hf) Try.func62 (by kernel_rfl) (by kernel_rfl) ?_ ?_ ?_ | refine adraw_c (rcheck_a f p hf) Try.func62 (by kernel_rfl) (by kernel_rfl) ?_ ?_ ?_)
      focus (simp [gate, hc, errV]; done)
      focus (simp [pubCall, hc, errV]; done)
      first | (with_reducible refine aops_run (by simp [List.replicate_succ, hc, errV]; first | exact rfl | exact ⟨rfl, rfl⟩) ?_) | (with_reducible refine adraw_go (by simp [List.replicate_succ, hc, errV]; first | exact rfl | exact ⟨rfl, rfl, rfl⟩) ?_)
      repeat (first
       | (with_reducible first | refine AW.seq ?_ | refine AW.block ?_ | refine aThen_n ?_ | refine aBlk_n ?_ | refine AW.ret ?_ | refine aThen_r ?_ | refine aBlk_r ?_ | refine aops_done ?_ | refine AW.skip ?_ | refine AW.exit ?_ | refine aThen_e ?_ | refine aBlk_hit ?_ | refine AW.label ?_ | refine AW.scope ?_ | refine aNg_n ?_ | refine aNg_r ?_ | refine aNg_e ?_)
       | ((with_reducible refine AW.region ?_); with_reducible refine aops_run (by simp [List.replicate_succ]; first | exact rfl | exact ⟨rfl, rfl⟩) ?_)
       | ((with_reducible refine AW.draw mixedP ?_ ?_); (focus first | exact .inl rfl | exact .inr (by decide)); with_reducible refine adraw_go (by simp [List.replicate_succ]; first | exact rfl | exact ⟨rfl, rfl, rfl⟩) ?_)
       | (with_reducible refine adraw_done (by kernel_rfl) ?_)
       | ((with_reducible refine aBlk_miss ?_ ?_); focus decide)
       | ((with_reducible refine cond_t ?_ ?_); focus (simp [ev]; done))
       | ((with_reducible refine cond_f ?_ ?_); focus (simp [ev]; done)))
      (with_reducible first | refine aops_c (rstretch_a f name hf.sl) Try.func33 (by kernel_rfl) (by kernel_rfl) ?_ ?_ ?_ | refine adraw_c (rstretch_a f name hf.sl) Try.func33 (by kernel_rfl) (by kernel_rfl) ?_ ?_ ?_)
      focus (simp [gate, foundS, stretchV, Stretch.row, hst, Stretch.zero]; done)
      focus (simp [pubCall, foundS, stretchV, Stretch.row, hst, Stretch.zero]; done)
      first | (with_reducible refine aops_run (by simp [List.replicate_succ, foundS, stretchV, Stretch.row, hst, Stretch.zero]; first | exact rfl | exact ⟨rfl, rfl⟩) ?_) | (with_reducible refine adraw_go (by simp [List.replicate_succ, foundS, stretchV, Stretch.row, hst, Stretch.zero]; first | exact rfl | exact ⟨rfl, rfl, rfl⟩) ?_)
      repeat (first
       | (with_reducible first | refine AW.seq ?_ | refine AW.block ?_ | refine aThen_n ?_ | refine aBlk_n ?_ | refine AW.ret ?_ | refine aThen_r ?_ | refine aBlk_r ?_ | refine aops_done ?_ | refine AW.skip ?_ | refine AW.exit ?_ | refine aThen_e ?_ | refine aBlk_hit ?_ | refine AW.label ?_ | refine AW.scope ?_ | refine aNg_n ?_ | refine aNg_r ?_ | refine aNg_e ?_)
       | ((with_reducible refine AW.region ?_); with_reducible refine aops_run (by simp [List.replicate_succ]; first | exact rfl | exact ⟨rfl, rfl⟩) ?_)
       | ((with_reducible refine AW.draw mixedP ?_ ?_); (focus first | exact .inl rfl | exact .inr (by decide)); with_reducible refine adraw_go (by simp [List.replicate_succ]; first | exact rfl | exact ⟨rfl, rfl, rfl⟩) ?_)
       | (with_reducible refine adraw_done (by kernel_rfl) ?_)
       | ((with_reducible refine aBlk_miss ?_ ?_); focus decide)
       | ((with_reducible refine cond_t ?_ ?_); focus (simp [ev]; done))
       | ((with_reducible refine cond_f ?_ ?_); focus (simp [ev]; done)))
      simp [aRet, ares, aresL, ares1, V.pub, V.pubs, ldV, Try.results24, hR, choiceEV, choiceV, errV]
    | some s =>
      have hs := (stretchO_mem hst).1
      have hG := good_of hv hs
      obtain ⟨g1, g2, g3, g4, g5, g6⟩ := hG
      have hR2 : chooseI f name need p = chooseS f s need p := by unfold chooseI; rw [hst]
      rw [hR2] at hR
      clear hR2 hk
      refine AC.intro Try.func24 rfl ?_
      simp only [Try.ntmps24, List.map_cons, List.map_nil, List.length_cons, List.length_nil, Nat.reduceAdd, Nat.reduceSub, List.replicate_succ, List.replicate_zero, List.cons_append, List.nil_append]
      repeat (first
       | (with_reducible first | refine AW.seq ?_ | refine AW.block ?_ | refine aThen_n ?_ | refine aBlk_n ?_ | refine AW.ret ?_ | refine aThen_r ?_ | refine aBlk_r ?_ | refine aops_done ?_ | refine AW.skip ?_ | refine AW.exit ?_ | refine aThen_e ?_ | refine aBlk_hit ?_ | refine AW.label ?_ | refine AW.scope ?_ | refine aNg_n ?_ | refine aNg_r ?_ | refine aNg_e ?_)
       | ((with_reducible refine AW.region ?_); with_reducible refine aops_run (by simp [List.replicate_succ]; first | exact rfl | exact ⟨rfl, rfl⟩) ?_)
       | ((with_reducible refine AW.draw mixedP ?_ ?_); (focus first | exact .inl rfl | exact .inr (by decide)); with_reducible refine adraw_go (by simp [List.replicate_succ]; first | exact rfl | exact ⟨rfl, rfl, rfl⟩) ?_)
       | (with_reducible refine adraw_done (by kernel_rfl) ?_)
       | ((with_reducible refine aBlk_miss ?_ ?_); focus decide)
       | ((with_reducible refine cond_t ?_ ?_); focus (simp [ev]; done))
       | ((with_reducible refine cond_f ?_ ?_); focus (simp [ev]; done)))
      (with_reducible first | refine aops_c (rcheck_a f p hf) Try.func62 (by kernel_rfl) (by kernel_rfl) ?_ ?_ ?_ | refine adraw_c (rcheck_a f p hf) Try.func62 (by kernel_rfl) (by kernel_rfl) ?_ ?_ ?_)
      focus (simp [gate, hc, errV]; done)
      focus (simp [pubCall, hc, errV]; done)
      first | (with_reducible refine aops_run (by simp [List.replicate_succ, hc, errV]; first | exact rfl | exact ⟨rfl, rfl⟩) ?_) | (with_reducible refine adraw_go (by simp [List.replicate_succ, hc, errV]; first | exact rfl | exact ⟨rfl, rfl, rfl⟩) ?_)
      repeat (first
       | (with_reducible first | refine AW.seq ?_ | refine AW.block ?_ | refine aThen_n ?_ | refine aBlk_n ?_ | refine AW.ret ?_ | refine aThen_r ?_ | refine aBlk_r ?_ | refine aops_done ?_ | refine AW.skip ?_ | refine AW.exit ?_ | refine aThen_e ?_ | refine aBlk_hit ?_ | refine AW.label ?_ | refine AW.scope ?_ | refine aNg_n ?_ | refine aNg_r ?_ | refine aNg_e ?_)
       | ((with_reducible refine AW.region ?_); with_reducible refine aops_run (by simp [List.replicate_succ]; first | exact rfl | exact ⟨rfl, rfl⟩) ?_)
       | ((with_reducible refine AW.draw mixedP ?_ ?_); (focus first | exact .inl rfl | exact .inr (by decide)); with_reducible refine adraw_go (by simp [List.replicate_succ]; first | exact rfl | exact ⟨rfl, rfl, rfl⟩) ?_)
       | (with_reducible refine adraw_done (by kernel_rfl) ?_)
       | ((with_reducible refine aBlk_miss ?_ ?_); focus decide)
       | ((with_reducible refine cond_t ?_ ?_); focus (simp [ev]; done))
       | ((with_reducible refine cond_f ?_ ?_); focus (simp [ev]; done)))
      (with_reducible first | refine aops_c (rstretch_a f name hf.sl) Try.func33 (by kernel_rfl) (by kernel_rfl) ?_ ?_ ?_ | refine adraw_c (rstretch_a f name hf.sl) Try.func33 (by kernel_rfl) (by kernel_rfl) ?_ ?_ ?_)
      focus (simp [gate, foundS, stretchV, Stretch.row, hst]; done)
      focus (simp [pubCall, foundS, stretchV, Stretch.row, hst]; done)
      first | (with_reducible refine aops_run (by simp [List.replicate_succ, foundS, stretchV, Stretch.row, hst]; first | exact rfl | exact ⟨rfl, rfl⟩) ?_) | (with_reducible refine adraw_go (by simp [List.replicate_succ, foundS, stretchV, Stretch.row, hst]; first | exact rfl | exact ⟨rfl, rfl, rfl⟩) ?_)
      repeat (first
       | (with_reducible first | refine AW.seq ?_ | refine AW.block ?_ | refine aThen_n ?_ | refine aBlk_n ?_ | refine AW.ret ?_ | refine aThen_r ?_ | refine aBlk_r ?_ | refine aops_done ?_ | refine AW.skip ?_ | refine AW.exit ?_ | refine aThen_e ?_ | refine aBlk_hit ?_ | refine AW.label ?_ | refine AW.scope ?_ | refine aNg_n ?_ | refine aNg_r ?_ | refine aNg_e ?_)
       | ((with_reducible refine AW.region ?_); with_reducible refine aops_run (by simp [List.replicate_succ]; first | exact rfl | exact ⟨rfl, rfl⟩) ?_)
       | ((with_reducible refine AW.draw mixedP ?_ ?_); (focus first | exact .inl rfl | exact .inr (by decide)); with_reducible refine adraw_go (by simp [List.replicate_succ]; first | exact rfl | exact ⟨rfl, rfl, rfl⟩) ?_)
       | (with_reducible refine adraw_done (by kernel_rfl) ?_)
       | ((with_reducible refine aBlk_miss ?_ ?_); focus decide)
       | ((with_reducible refine cond_t ?_ ?_); focus (simp [ev]; done))
       | ((with_reducible refine cond_f ?_ ?_); focus (simp [ev]; done)))
      refine AW.loopH (ι := { k : Nat // k ≤ s.sizes.length ∧ firstSize f p need s.sizes = firstSize f p need (s.sizes.drop k) }) (fun k => [(13, .c (.int .i64 (k.1 : Int))), (9, .c (.int .i64 0))]) (fun _ => [.box 27 f.vs false, .box 36 [.c (.str ⟨#[]⟩), .c (.int .i64 0)] false, .box 59 (s.row.map V.c) false]) (fun k => s.sizes.length - k.1) ⟨0, by simp⟩ _ (by simp only [wr, wrOps, List.cons_append, List.nil_append, List.append_nil, List.append_assoc]; exact rfl) _ (by simp only [havoc, List.foldl_cons, List.foldl_nil, List.set_cons_zero, List.set_cons_succ]; exact rfl) ?_ ?_
      all_goals simp only [puts, List.foldl_cons, List.foldl_nil, List.set_cons_zero, List.set_cons_succ]
      · refine Le.weak (by simp [subT, Stretch.row])
      · rintro ⟨k, hkl, hI⟩
        by_cases hlt : k < s.sizes.length
        · obtain ⟨n, hn⟩ : ∃ n, s.sizes[k] = n := ⟨_, rfl⟩
          rw [List.drop_eq_getElem_cons hlt, hn] at hI
          simp only [firstSize] at hI
          by_cases he : need ≤ sizeH f n p
          · rw [if_pos he] at hI
            have hR3 : chooseR f name need p = (⟨n, 0⟩, 0) := by rw [hR]; unfold chooseS; rw [hI]
            repeat (first
             | (with_reducible first | refine AW.seq ?_ | refine AW.block ?_ | refine aThen_n ?_ | refine aBlk_n ?_ | refine AW.ret ?_ | refine aThen_r ?_ | refine aBlk_r ?_ | refine aops_done ?_ | refine AW.skip ?_ | refine AW.exit ?_ | refine aThen_e ?_ | refine aBlk_hit ?_ | refine AW.label ?_ | refine AW.scope ?_ | refine aNg_n ?_ | refine aNg_r ?_ | refine aNg_e ?_)
             | ((with_reducible refine AW.region ?_); with_reducible refine aops_run (by simp [List.replicate_succ, hlt, hn, Stretch.row, sizesC]; first | exact rfl | exact ⟨rfl, rfl⟩) ?_)
             | ((with_reducible refine AW.draw mixedP ?_ ?_); (focus first | exact .inl rfl | exact .inr (by decide)); with_reducible refine adraw_go (by simp [List.replicate_succ, hlt, hn, Stretch.row, sizesC]; first | exact rfl | exact ⟨rfl, rfl, rfl⟩) ?_)
             | (with_reducible refine adraw_done (by kernel_rfl) ?_)
             | ((with_reducible refine aBlk_miss ?_ ?_); focus decide)
             | ((with_reducible refine cond_t ?_ ?_); focus (simp [ev, hlt, hn, Stretch.row, sizesC]; done))
             | ((with_reducible refine cond_f ?_ ?_); focus (simp [ev, hlt, hn, Stretch.row, sizesC]; done)))
            (with_reducible first | refine aops_c (rtall_0 f name n p hf hv hpp.1 hpp.2) Try.func63 (by kernel_rfl) (by kernel_rfl) ?_ ?_ ?_ | refine adraw_c (rtall_0 f name n p hf hv hpp.1 hpp.2) Try.func63 (by kernel_rfl) (by kernel_rfl) ?_ ?_ ?_)
            focus (simp [gate, he]; done)
            focus (simp [pubCall, he]; done)
            first | (with_reducible refine aops_run (by simp [List.replicate_succ, he]; first | exact rfl | exact ⟨rfl, rfl⟩) ?_) | (with_reducible refine adraw_go (by simp [List.replicate_succ, he]; first | exact rfl | exact ⟨rfl, rfl, rfl⟩) ?_)
            repeat (first
             | (with_reducible first | refine AW.seq ?_ | refine AW.block ?_ | refine aThen_n ?_ | refine aBlk_n ?_ | refine AW.ret ?_ | refine aThen_r ?_ | refine aBlk_r ?_ | refine aops_done ?_ | refine AW.skip ?_ | refine AW.exit ?_ | refine aThen_e ?_ | refine aBlk_hit ?_ | refine AW.label ?_ | refine AW.scope ?_ | refine aNg_n ?_ | refine aNg_r ?_ | refine aNg_e ?_)
             | ((with_reducible refine AW.region ?_); with_reducible refine aops_run (by simp [List.replicate_succ, hlt, hn, he, Stretch.row, sizesC]; first | exact rfl | exact ⟨rfl, rfl⟩) ?_)
             | ((with_reducible refine AW.draw mixedP ?_ ?_); (focus first | exact .inl rfl | exact .inr (by decide)); with_reducible refine adraw_go (by simp [List.replicate_succ, hlt, hn, he, Stretch.row, sizesC]; first | exact rfl | exact ⟨rfl, rfl, rfl⟩) ?_)
             | (with_reducible refine adraw_done (by kernel_rfl) ?_)
             | ((with_reducible refine aBlk_miss ?_ ?_); focus decide)
             | ((with_reducible refine cond_t ?_ ?_); focus (simp [ev, hlt, hn, he, Stretch.row, sizesC]; done))
             | ((with_reducible refine cond_f ?_ ?_); focus (simp [ev, hlt, hn, he, Stretch.row, sizesC]; done)))
            simp [aRet, ares, aresL, ares1, V.pub, V.pubs, ldV, Try.results24, hR3, choiceEV, choiceV, errV]
          · rw [if_neg he] at hI
            have hw : IntKind.i64.wrap ((k : Int) + 1) = ((k + 1 : Nat) : Int) := by rw [wrap_i64 (by omega) (by omega)]; simp
            repeat (first
             | (with_reducible first | refine AW.seq ?_ | refine AW.block ?_ | refine aThen_n ?_ | refine aBlk_n ?_ | refine AW.ret ?_ | refine aThen_r ?_ | refine aBlk_r ?_ | refine aops_done ?_ | refine AW.skip ?_ | refine AW.exit ?_ | refine aThen_e ?_ | refine aBlk_hit ?_ | refine AW.label ?_ | refine AW.scope ?_ | refine aNg_n ?_ | refine aNg_r ?_ | refine aNg_e ?_)
             | ((with_reducible refine AW.region ?_); with_reducible refine aops_run (by simp [List.replicate_succ, hlt, hn, Stretch.row, sizesC]; first | exact rfl | exact ⟨rfl, rfl⟩) ?_)
             | ((with_reducible refine AW.draw mixedP ?_ ?_); (focus first | exact .inl rfl | exact .inr (by decide)); with_reducible refine adraw_go (by simp [List.replicate_succ, hlt, hn, Stretch.row, sizesC]; first | exact rfl | exact ⟨rfl, rfl, rfl⟩) ?_)
             | (with_reducible refine adraw_done (by kernel_rfl) ?_)
             | ((with_reducible refine aBlk_miss ?_ ?_); focus decide)
             | ((with_reducible refine cond_t ?_ ?_); focus (simp [ev, hlt, hn, Stretch.row, sizesC]; done))
             | ((with_reducible refine cond_f ?_ ?_); focus (simp [ev, hlt, hn, Stretch.row, sizesC]; done)))
            (with_reducible first | refine aops_c (rtall_0 f name n p hf hv hpp.1 hpp.2) Try.func63 (by kernel_rfl) (by kernel_rfl) ?_ ?_ ?_ | refine adraw_c (rtall_0 f name n p hf hv hpp.1 hpp.2) Try.func63 (by kernel_rfl) (by kernel_rfl) ?_ ?_ ?_)
            focus (simp [gate, he]; done)
            focus (simp [pubCall, he]; done)
            first | (with_reducible refine aops_run (by simp [List.replicate_succ, he]; first | exact rfl | exact ⟨rfl, rfl⟩) ?_) | (with_reducible refine adraw_go (by simp [List.replicate_succ, he]; first | exact rfl | exact ⟨rfl, rfl, rfl⟩) ?_)
            repeat (first
             | (with_reducible first | refine AW.seq ?_ | refine AW.block ?_ | refine aThen_n ?_ | refine aBlk_n ?_ | refine AW.ret ?_ | refine aThen_r ?_ | refine aBlk_r ?_ | refine aops_done ?_ | refine AW.skip ?_ | refine AW.exit ?_ | refine aThen_e ?_ | refine aBlk_hit ?_ | refine AW.label ?_ | refine AW.scope ?_ | refine aNg_n ?_ | refine aNg_r ?_ | refine aNg_e ?_)
             | ((with_reducible refine AW.region ?_); with_reducible refine aops_run (by simp [List.replicate_succ, hlt, hn, he, Stretch.row, sizesC, hw]; first | exact rfl | exact ⟨rfl, rfl⟩) ?_)
             | ((with_reducible refine AW.draw mixedP ?_ ?_); (focus first | exact .inl rfl | exact .inr (by decide)); with_reducible refine adraw_go (by simp [List.replicate_succ, hlt, hn, he, Stretch.row, sizesC, hw]; first | exact rfl | exact ⟨rfl, rfl, rfl⟩) ?_)
             | (with_reducible refine adraw_done (by kernel_rfl) ?_)
             | ((with_reducible refine aBlk_miss ?_ ?_); focus decide)
             | ((with_reducible refine cond_t ?_ ?_); focus (simp [ev, hlt, hn, he, Stretch.row, sizesC, hw]; done))
             | ((with_reducible refine cond_f ?_ ?_); focus (simp [ev, hlt, hn, he, Stretch.row, sizesC, hw]; done)))
            refine ⟨⟨k + 1, by omega, hI⟩, by simp only; omega, ?_⟩
            refine Le.weak (by simp [subT, Stretch.row, sizesC])
        · have e : firstSize f p need s.sizes = none := by rw [hI, List.drop_of_length_le (by omega)]; rfl
          have hR3 : chooseS f s need p = if s.parts = [] then ⟨s.sizes.getD (s.sizes.length - 1) ⟨#[]⟩, 0⟩ else ⟨⟨#[]⟩, srch f s p need 999⟩ := by unfold chooseS; rw [e]
          by_cases hpn : s.parts = []
          · rw [if_pos hpn] at hR3
            obtain ⟨m, hm⟩ : ∃ m, s.sizes.length = m + 1 := ⟨s.sizes.length - 1, by omega⟩
            have hmlt : m < s.sizes.length := by omega
            obtain ⟨n, hn⟩ : ∃ n, s.sizes[m] = n := ⟨_, rfl⟩
            have hw : IntKind.i64.wrap ((s.sizes.length : Int) - 1) = (m : Int) := by rw [wrap_i64 (by omega) (by omega)]; omega
            have hg : s.sizes.getD (s.sizes.length - 1) ⟨#[]⟩ = n := by rw [hm]; simp [List.getD, hmlt, hn]
            rw [hg] at hR3
            rw [hR3] at hR
            repeat (first
             | (with_reducible first | refine AW.seq ?_ | refine AW.block ?_ | refine aThen_n ?_ | refine aBlk_n ?_ | refine AW.ret ?_ | refine aThen_r ?_ | refine aBlk_r ?_ | refine aops_done ?_ | refine AW.skip ?_ | refine AW.exit ?_ | refine aThen_e ?_ | refine aBlk_hit ?_ | refine AW.label ?_ | refine AW.scope ?_ | refine aNg_n ?_ | refine aNg_r ?_ | refine aNg_e ?_)
             | ((with_reducible refine AW.region ?_); with_reducible refine aops_run (by simp [List.replicate_succ, hlt, hpn, Stretch.row, sizesC, partsC, hw, hmlt, hn]; first | exact rfl | exact ⟨rfl, rfl⟩) ?_)
             | ((with_reducible refine AW.draw mixedP ?_ ?_); (focus first | exact .inl rfl | exact .inr (by decide)); with_reducible refine adraw_go (by simp [List.replicate_succ, hlt, hpn, Stretch.row, sizesC, partsC, hw, hmlt, hn]; first | exact rfl | exact ⟨rfl, rfl, rfl⟩) ?_)
             | (with_reducible refine adraw_done (by kernel_rfl) ?_)
             | ((with_reducible refine aBlk_miss ?_ ?_); focus decide)
             | ((with_reducible refine cond_t ?_ ?_); focus (simp [ev, hlt, hpn, Stretch.row, sizesC, partsC, hw, hmlt, hn]; done))
             | ((with_reducible refine cond_f ?_ ?_); focus (simp [ev, hlt, hpn, Stretch.row, sizesC, partsC, hw, hmlt, hn]; done)))
            simp [aRet, ares, aresL, ares1, V.pub, V.pubs, ldV, Try.results24, hR, choiceEV, choiceV, errV]
          · rw [if_neg hpn] at hR3
            have hpl : ¬ s.parts.length = 0 := by simpa using hpn
            rw [hR3] at hR
            repeat (first
             | (with_reducible first | refine AW.seq ?_ | refine AW.block ?_ | refine aThen_n ?_ | refine aBlk_n ?_ | refine AW.ret ?_ | refine aThen_r ?_ | refine aBlk_r ?_ | refine aops_done ?_ | refine AW.skip ?_ | refine AW.exit ?_ | refine aThen_e ?_ | refine aBlk_hit ?_ | refine AW.label ?_ | refine AW.scope ?_ | refine aNg_n ?_ | refine aNg_r ?_ | refine aNg_e ?_)
             | ((with_reducible refine AW.region ?_); with_reducible refine aops_run (by simp [List.replicate_succ, hlt, hpn, hpl, Stretch.row, sizesC, partsC]; first | exact rfl | exact ⟨rfl, rfl⟩) ?_)
             | ((with_reducible refine AW.draw mixedP ?_ ?_); (focus first | exact .inl rfl | exact .inr (by decide)); with_reducible refine adraw_go (by simp [List.replicate_succ, hlt, hpn, hpl, Stretch.row, sizesC, partsC]; first | exact rfl | exact ⟨rfl, rfl, rfl⟩) ?_)
             | (with_reducible refine adraw_done (by kernel_rfl) ?_)
             | ((with_reducible refine aBlk_miss ?_ ?_); focus decide)
             | ((with_reducible refine cond_t ?_ ?_); focus (simp [ev, hlt, hpn, hpl, Stretch.row, sizesC, partsC]; done))
             | ((with_reducible refine cond_f ?_ ?_); focus (simp [ev, hlt, hpn, hpl, Stretch.row, sizesC, partsC]; done)))
            refine AW.loopH (ι := { r : Int // 1 ≤ r ∧ r ≤ 1000 ∧ srch f s p need 999 = srch f s p need (1000 - r).toNat }) (fun r => [(14, .c (.int .i64 r.1))]) (fun _ => [.box 27 f.vs false, .box 36 [.c (.str ⟨#[]⟩), .c (.int .i64 0)] false, .box 59 (s.row.map V.c) false]) (fun r => (1000 - r.1).toNat) ⟨1, by simp⟩ _ (by simp only [wr, wrOps, List.cons_append, List.nil_append, List.append_nil, List.append_assoc]; exact rfl) _ (by simp only [havoc, List.foldl_cons, List.foldl_nil, List.set_cons_zero, List.set_cons_succ]; exact rfl) ?_ ?_
            all_goals simp only [puts, List.foldl_cons, List.foldl_nil, List.set_cons_zero, List.set_cons_succ]
            · refine Le.weak (by simp [subT, Stretch.row])
            · rintro ⟨r, r1, r2, hS⟩
              by_cases hr : r < 1000
              · rw [srch_step f s p need r r1 hr] at hS
                obtain ⟨b1, b2⟩ := tallI_bound hv hs r1 r2
                by_cases hn : need ≤ scale (tallI f s r) p
                · rw [if_pos hn] at hS
                  rw [hS] at hR
                  have hn' : ¬ scale (tallI f s r) p < need := by omega
                  repeat (first
                   | (with_reducible first | refine AW.seq ?_ | refine AW.block ?_ | refine aThen_n ?_ | refine aBlk_n ?_ | refine AW.ret ?_ | refine aThen_r ?_ | refine aBlk_r ?_ | refine aops_done ?_ | refine AW.skip ?_ | refine AW.exit ?_ | refine aThen_e ?_ | refine aBlk_hit ?_ | refine AW.label ?_ | refine AW.scope ?_ | refine aNg_n ?_ | refine aNg_r ?_ | refine aNg_e ?_)
                   | ((with_reducible refine AW.region ?_); with_reducible refine aops_run (by simp [List.replicate_succ, hr, Stretch.row]; first | exact rfl | exact ⟨rfl, rfl⟩) ?_)
                   | ((with_reducible refine AW.draw mixedP ?_ ?_); (focus first | exact .inl rfl | exact .inr (by decide)); with_reducible refine adraw_go (by simp [List.replicate_succ, hr, Stretch.row]; first | exact rfl | exact ⟨rfl, rfl, rfl⟩) ?_)
                   | (with_reducible refine adraw_done (by kernel_rfl) ?_)
                   | ((with_reducible refine aBlk_miss ?_ ?_); focus decide)
                   | ((with_reducible refine cond_t ?_ ?_); focus (simp [ev, hr, Stretch.row]; done))
                   | ((with_reducible refine cond_f ?_ ?_); focus (simp [ev, hr, Stretch.row]; done)))
                  (with_reducible first | refine aops_c (rTall_a f s r hf hv hs r1 r2 hpn) Try.func65 (by kernel_rfl) (by kernel_rfl) ?_ ?_ ?_ | refine adraw_c (rTall_a f s r hf hv hs r1 r2 hpn) Try.func65 (by kernel_rfl) (by kernel_rfl) ?_ ?_ ?_)
                  focus (simp [gate, stretchV, Stretch.row, hr]; done)
                  focus (simp [pubCall, stretchV, Stretch.row, hr]; done)
                  first | (with_reducible refine aops_run (by simp [List.replicate_succ, stretchV, Stretch.row, hr]; first | exact rfl | exact ⟨rfl, rfl⟩) ?_) | (with_reducible refine adraw_go (by simp [List.replicate_succ, stretchV, Stretch.row, hr]; first | exact rfl | exact ⟨rfl, rfl, rfl⟩) ?_)
                  (with_reducible first | refine aops_c (rscale_l (n := tallI f s r) (p := p) (by omega) (by omega) (by omega) (by omega)) Try.func64 (by kernel_rfl) (by kernel_rfl) ?_ ?_ ?_ | refine adraw_c (rscale_l (n := tallI f s r) (p := p) (by omega) (by omega) (by omega) (by omega)) Try.func64 (by kernel_rfl) (by kernel_rfl) ?_ ?_ ?_)
                  focus (simp [gate, hn', hn]; done)
                  focus (simp [pubCall, hn', hn]; done)
                  first | (with_reducible refine aops_run (by simp [List.replicate_succ, hn', hn]; first | exact rfl | exact ⟨rfl, rfl⟩) ?_) | (with_reducible refine adraw_go (by simp [List.replicate_succ, hn', hn]; first | exact rfl | exact ⟨rfl, rfl, rfl⟩) ?_)
                  repeat (first
                   | (with_reducible first | refine AW.seq ?_ | refine AW.block ?_ | refine aThen_n ?_ | refine aBlk_n ?_ | refine AW.ret ?_ | refine aThen_r ?_ | refine aBlk_r ?_ | refine aops_done ?_ | refine AW.skip ?_ | refine AW.exit ?_ | refine aThen_e ?_ | refine aBlk_hit ?_ | refine AW.label ?_ | refine AW.scope ?_ | refine aNg_n ?_ | refine aNg_r ?_ | refine aNg_e ?_)
                   | ((with_reducible refine AW.region ?_); with_reducible refine aops_run (by simp [List.replicate_succ, hn, hn']; first | exact rfl | exact ⟨rfl, rfl⟩) ?_)
                   | ((with_reducible refine AW.draw mixedP ?_ ?_); (focus first | exact .inl rfl | exact .inr (by decide)); with_reducible refine adraw_go (by simp [List.replicate_succ, hn, hn']; first | exact rfl | exact ⟨rfl, rfl, rfl⟩) ?_)
                   | (with_reducible refine adraw_done (by kernel_rfl) ?_)
                   | ((with_reducible refine aBlk_miss ?_ ?_); focus decide)
                   | ((with_reducible refine cond_t ?_ ?_); focus (simp [ev, hn, hn']; done))
                   | ((with_reducible refine cond_f ?_ ?_); focus (simp [ev, hn, hn']; done)))
                  simp [aRet, ares, aresL, ares1, V.pub, V.pubs, ldV, Try.results24, hR, choiceEV, choiceV, errV]
                · rw [if_neg hn] at hS
                  have hn' : scale (tallI f s r) p < need := by omega
                  have hw : IntKind.i64.wrap (r + 1) = r + 1 := wrap_i64 (by omega) (by omega)
                  repeat (first
                   | (with_reducible first | refine AW.seq ?_ | refine AW.block ?_ | refine aThen_n ?_ | refine aBlk_n ?_ | refine AW.ret ?_ | refine aThen_r ?_ | refine aBlk_r ?_ | refine aops_done ?_ | refine AW.skip ?_ | refine AW.exit ?_ | refine aThen_e ?_ | refine aBlk_hit ?_ | refine AW.label ?_ | refine AW.scope ?_ | refine aNg_n ?_ | refine aNg_r ?_ | refine aNg_e ?_)
                   | ((with_reducible refine AW.region ?_); with_reducible refine aops_run (by simp [List.replicate_succ, hr, Stretch.row]; first | exact rfl | exact ⟨rfl, rfl⟩) ?_)
                   | ((with_reducible refine AW.draw mixedP ?_ ?_); (focus first | exact .inl rfl | exact .inr (by decide)); with_reducible refine adraw_go (by simp [List.replicate_succ, hr, Stretch.row]; first | exact rfl | exact ⟨rfl, rfl, rfl⟩) ?_)
                   | (with_reducible refine adraw_done (by kernel_rfl) ?_)
                   | ((with_reducible refine aBlk_miss ?_ ?_); focus decide)
                   | ((with_reducible refine cond_t ?_ ?_); focus (simp [ev, hr, Stretch.row]; done))
                   | ((with_reducible refine cond_f ?_ ?_); focus (simp [ev, hr, Stretch.row]; done)))
                  (with_reducible first | refine aops_c (rTall_a f s r hf hv hs r1 r2 hpn) Try.func65 (by kernel_rfl) (by kernel_rfl) ?_ ?_ ?_ | refine adraw_c (rTall_a f s r hf hv hs r1 r2 hpn) Try.func65 (by kernel_rfl) (by kernel_rfl) ?_ ?_ ?_)
                  focus (simp [gate, stretchV, Stretch.row, hr]; done)
                  focus (simp [pubCall, stretchV, Stretch.row, hr]; done)
                  first | (with_reducible refine aops_run (by simp [List.replicate_succ, stretchV, Stretch.row, hr]; first | exact rfl | exact ⟨rfl, rfl⟩) ?_) | (with_reducible refine adraw_go (by simp [List.replicate_succ, stretchV, Stretch.row, hr]; first | exact rfl | exact ⟨rfl, rfl, rfl⟩) ?_)
                  (with_reducible first | refine aops_c (rscale_l (n := tallI f s r) (p := p) (by omega) (by omega) (by omega) (by omega)) Try.func64 (by kernel_rfl) (by kernel_rfl) ?_ ?_ ?_ | refine adraw_c (rscale_l (n := tallI f s r) (p := p) (by omega) (by omega) (by omega) (by omega)) Try.func64 (by kernel_rfl) (by kernel_rfl) ?_ ?_ ?_)
                  focus (simp [gate, hn', hn]; done)
                  focus (simp [pubCall, hn', hn]; done)
                  first | (with_reducible refine aops_run (by simp [List.replicate_succ, hn', hn]; first | exact rfl | exact ⟨rfl, rfl⟩) ?_) | (with_reducible refine adraw_go (by simp [List.replicate_succ, hn', hn]; first | exact rfl | exact ⟨rfl, rfl, rfl⟩) ?_)
                  repeat (first
                   | (with_reducible first | refine AW.seq ?_ | refine AW.block ?_ | refine aThen_n ?_ | refine aBlk_n ?_ | refine AW.ret ?_ | refine aThen_r ?_ | refine aBlk_r ?_ | refine aops_done ?_ | refine AW.skip ?_ | refine AW.exit ?_ | refine aThen_e ?_ | refine aBlk_hit ?_ | refine AW.label ?_ | refine AW.scope ?_ | refine aNg_n ?_ | refine aNg_r ?_ | refine aNg_e ?_)
                   | ((with_reducible refine AW.region ?_); with_reducible refine aops_run (by simp [List.replicate_succ, hn, hn', hw]; first | exact rfl | exact ⟨rfl, rfl⟩) ?_)
                   | ((with_reducible refine AW.draw mixedP ?_ ?_); (focus first | exact .inl rfl | exact .inr (by decide)); with_reducible refine adraw_go (by simp [List.replicate_succ, hn, hn', hw]; first | exact rfl | exact ⟨rfl, rfl, rfl⟩) ?_)
                   | (with_reducible refine adraw_done (by kernel_rfl) ?_)
                   | ((with_reducible refine aBlk_miss ?_ ?_); focus decide)
                   | ((with_reducible refine cond_t ?_ ?_); focus (simp [ev, hn, hn', hw]; done))
                   | ((with_reducible refine cond_f ?_ ?_); focus (simp [ev, hn, hn', hw]; done)))
                  refine ⟨⟨r + 1, by omega, by omega, hS⟩, by simp only; omega, ?_⟩
                  refine Le.weak (by simp [subT, Stretch.row])
              · have e1 : r = 1000 := by omega
                subst e1
                have e2 : srch f s p need (1000 - 1000 : Int).toNat = 1000 := rfl
                rw [e2] at hS
                rw [hS] at hR
                repeat (first
                 | (with_reducible first | refine AW.seq ?_ | refine AW.block ?_ | refine aThen_n ?_ | refine aBlk_n ?_ | refine AW.ret ?_ | refine aThen_r ?_ | refine aBlk_r ?_ | refine aops_done ?_ | refine AW.skip ?_ | refine AW.exit ?_ | refine aThen_e ?_ | refine aBlk_hit ?_ | refine AW.label ?_ | refine AW.scope ?_ | refine aNg_n ?_ | refine aNg_r ?_ | refine aNg_e ?_)
                 | ((with_reducible refine AW.region ?_); with_reducible refine aops_run (by simp [List.replicate_succ, Stretch.row]; first | exact rfl | exact ⟨rfl, rfl⟩) ?_)
                 | ((with_reducible refine AW.draw mixedP ?_ ?_); (focus first | exact .inl rfl | exact .inr (by decide)); with_reducible refine adraw_go (by simp [List.replicate_succ, Stretch.row]; first | exact rfl | exact ⟨rfl, rfl, rfl⟩) ?_)
                 | (with_reducible refine adraw_done (by kernel_rfl) ?_)
                 | ((with_reducible refine aBlk_miss ?_ ?_); focus decide)
                 | ((with_reducible refine cond_t ?_ ?_); focus (simp [ev, Stretch.row]; done))
                 | ((with_reducible refine cond_f ?_ ?_); focus (simp [ev, Stretch.row]; done)))
                simp [aRet, ares, aresL, ares1, V.pub, V.pubs, ldV, Try.results24, hR, choiceEV, choiceV, errV]
  · have hR : chooseR f name need p = (⟨⟨#[]⟩, 0⟩, checkR f p) := by unfold chooseR; rw [if_pos (by simp [hc])]
    refine AC.intro Try.func24 rfl ?_
    simp only [Try.ntmps24, List.map_cons, List.map_nil, List.length_cons, List.length_nil, Nat.reduceAdd, Nat.reduceSub, List.replicate_succ, List.replicate_zero, List.cons_append, List.nil_append]
    repeat (first
     | (with_reducible first | refine AW.seq ?_ | refine AW.block ?_ | refine aThen_n ?_ | refine aBlk_n ?_ | refine AW.ret ?_ | refine aThen_r ?_ | refine aBlk_r ?_ | refine aops_done ?_ | refine AW.skip ?_ | refine AW.exit ?_ | refine aThen_e ?_ | refine aBlk_hit ?_ | refine AW.label ?_ | refine AW.scope ?_ | refine aNg_n ?_ | refine aNg_r ?_ | refine aNg_e ?_)
     | ((with_reducible refine AW.region ?_); with_reducible refine aops_run (by simp [List.replicate_succ]; first | exact rfl | exact ⟨rfl, rfl⟩) ?_)
     | ((with_reducible refine AW.draw mixedP ?_ ?_); (focus first | exact .inl rfl | exact .inr (by decide)); with_reducible refine adraw_go (by simp [List.replicate_succ]; first | exact rfl | exact ⟨rfl, rfl, rfl⟩) ?_)
     | (with_reducible refine adraw_done (by kernel_rfl) ?_)
     | ((with_reducible refine aBlk_miss ?_ ?_); focus decide)
     | ((with_reducible refine cond_t ?_ ?_); focus (simp [ev]; done))
     | ((with_reducible refine cond_f ?_ ?_); focus (simp [ev]; done)))
    (with_reducible first | refine aops_c (rcheck_a f p hf) Try.func62 (by kernel_rfl) (by kernel_rfl) ?_ ?_ ?_ | refine adraw_c (rcheck_a f p hf) Try.func62 (by kernel_rfl) (by kernel_rfl) ?_ ?_ ?_)
    focus (simp [gate, errV]; done)
    focus (simp [pubCall, errV]; done)
    first | (with_reducible refine aops_run (by simp [List.replicate_succ, errV]; first | exact rfl | exact ⟨rfl, rfl⟩) ?_) | (with_reducible refine adraw_go (by simp [List.replicate_succ, errV]; first | exact rfl | exact ⟨rfl, rfl, rfl⟩) ?_)
    repeat (first
     | (with_reducible first | refine AW.seq ?_ | refine AW.block ?_ | refine aThen_n ?_ | refine aBlk_n ?_ | refine AW.ret ?_ | refine aThen_r ?_ | refine aBlk_r ?_ | refine aops_done ?_ | refine AW.skip ?_ | refine AW.exit ?_ | refine aThen_e ?_ | refine aBlk_hit ?_ | refine AW.label ?_ | refine AW.scope ?_ | refine aNg_n ?_ | refine aNg_r ?_ | refine aNg_e ?_)
     | ((with_reducible refine AW.region ?_); with_reducible refine aops_run (by simp [List.replicate_succ, hc]; first | exact rfl | exact ⟨rfl, rfl⟩) ?_)
     | ((with_reducible refine AW.draw mixedP ?_ ?_); (focus first | exact .inl rfl | exact .inr (by decide)); with_reducible refine adraw_go (by simp [List.replicate_succ, hc]; first | exact rfl | exact ⟨rfl, rfl, rfl⟩) ?_)
     | (with_reducible refine adraw_done (by kernel_rfl) ?_)
     | ((with_reducible refine aBlk_miss ?_ ?_); focus decide)
     | ((with_reducible refine cond_t ?_ ?_); focus (simp [ev, hc]; done))
     | ((with_reducible refine cond_f ?_ ?_); focus (simp [ev, hc]; done)))
    simp [aRet, ares, aresL, ares1, V.pub, V.pubs, ldV, Try.results24, hR, choiceEV, choiceV, errV]
end Go.Proofs.Ythbcljjpmdfflaa
