/-
 Layer 31, plain: a box that is found is valid; Make has no error then; two delimiters.
-/
import Derived.Test.YthbcljjpmdfflaaGreatEg
namespace Go.Proofs.YthbcljjpmdfflaaGreat
open Go.RowKit
set_option linter.unusedSimpArgs false
set_option linter.unusedVariables false
set_option maxRecDepth 100000
theorem lenV {n : Int} (h1 : -1073741824 ≤ n) (h2 : n ≤ 1073741824) : lenValid n = true := by simp [lenValid, h1, h2]
theorem pick_nameB {f : Font} (hv : f.valid = true) (name : ByteArray) (hn : nameB name = true) : nameB (f.pick name).name = true := by
 have hok : ∀ g ∈ f.glyphs, nameB g.name = true := by
  intro g hg
  have := valid_glyphs hv g hg
  simp only [glyphOk, Bool.and_eq_true] at this
  exact this.1
 unfold Font.pick
 split
 · rename_i g hg; exact hok g (findO_in hg).1
 · split
   · rename_i g hg; exact hok g (findO_in hg).1
   · exact hn
theorem ht_nameB {f : Font} (hv : f.valid = true) {name : ByteArray} {h : Int} (e : f.ht name = some h) : nameB name = true := by
 simp only [Font.ht, Option.map_eq_some_iff] at e
 obtain ⟨g, hg, _⟩ := e
 obtain ⟨m, rfl⟩ := findO_in hg
 have := valid_glyphs hv g m
 simp only [glyphOk, Bool.and_eq_true] at this
 exact this.1
theorem sized_prop {f : Font} (hv : f.valid = true) {p : Int} (h1 : 1 ≤ p) (h2 : p ≤ 100) {name : ByteArray} (hn : nameB name = true) {y : Int} (hy : lenValid y = true) : ({ (sizedR f name p).1 with y := y } : Box).propB = true ∧ ({ (sizedR f name p).1 with y := y } : Box).nest = 1 := by
 obtain ⟨e, _⟩ := sizedR_eq hv h1 h2 name
 have hb := scaled_b hv h1 h2 name
 have hk := pick_nameB hv name hn
 rw [e]
 have hn' : nameB ((f.pick name).scaled p).name = true := hk
 obtain ⟨G, hG⟩ : ∃ G, (f.pick name).scaled p = G := ⟨_, rfl⟩
 rw [hG] at hb hn' ⊢
 have hm : 0 ≤ mx 0 G.italic ∧ mx 0 G.italic ≤ 200000 := by rw [mx_eq]; omega
 refine ⟨?_, rfl⟩
 have k1 : lenValid (G.w + mx 0 G.italic) = true := lenV (by omega) (by omega)
 have k2 : lenValid G.h = true := lenV (by omega) (by omega)
 have k3 : lenValid G.d = true := lenV (by omega) (by omega)
 have k4 : lenValid 0 = true := lenV (by omega) (by omega)
 simp [glyphBox, Box.propB, Box.propsB, Box.ownB, Box.lens, Box.kindB, Box.srcB, k1, k2, k3, k4, hy, hn', h1, show p ≤ 1000 by omega, posB, srcOf]
theorem sized_y0 {f : Font} (hv : f.valid = true) {p : Int} (h1 : 1 ≤ p) (h2 : p ≤ 100) (name : ByteArray) : ({ (sizedR f name p).1 with y := 0 } : Box) = (sizedR f name p).1 := by
 obtain ⟨e, _⟩ := sizedR_eq hv h1 h2 name
 rw [e]; rfl
theorem asm_prop {f : Font} (hv : f.valid = true) {p : Int} (h1 : 1 ≤ p) (h2 : p ≤ 100) (ov : Int) (ho : 0 ≤ ov) : ∀ (l : List Part) (b : Int), 0 ≤ b → b + 40000 * (l.length : Int) ≤ 400000000 → (∀ q ∈ l, nameB q.name = true ∧ ov < (f.pick q.name).height) → Box.propsB (asmKids f ov p b l) = true ∧ Box.nests (asmKids f ov p b l) ≤ 1
 | [], b, _, _, _ => ⟨rfl, Nat.zero_le _⟩
 | q :: l, b, hb, hl, hq => by
   obtain ⟨hqn, hqh⟩ := hq q List.mem_cons_self
   have hs := pick_small hv q.name
   unfold Glyph.Small at hs
   have hhe : (f.pick q.name).height = (f.pick q.name).h + (f.pick q.name).d := rfl
   simp only [List.length_cons] at hl
   obtain ⟨i1, i2⟩ := asm_prop hv h1 h2 ov ho l (b + ((f.pick q.name).height - ov)) (by omega) (by omega) fun x hx => hq x (List.mem_cons_of_mem _ hx)
   have hsb := scale_lb (n := b) (p := p) (by omega) (by omega) (by omega) (by omega)
   have hsd : -200000 ≤ (sizedR f q.name p).1.d ∧ (sizedR f q.name p).1.d ≤ 200000 := by
    rw [(sizedR_eq hv h1 h2 q.name).1]
    have := scaled_b hv h1 h2 q.name
    simp only [glyphBox]
    omega
   obtain ⟨j1, j2⟩ := sized_prop hv h1 h2 hqn (y := scale b p + (sizedR f q.name p).1.d) (lenV (by omega) (by omega))
   simp only [asmKids, pieceBox, Box.propsB, Box.nests]
   rw [j1, i1, j2]
   exact ⟨rfl, Nat.max_le.2 ⟨Nat.le_refl _, i2⟩⟩
theorem sizes_nameB {f : Font} (hv : f.valid = true) : ∀ (l : List ByteArray) (a : Int), sizesOk f.ht a l = true → ∀ n ∈ l, nameB n = true
 | [], a, _, n, hn => by cases hn
 | x :: l, a, h, n, hn => by
   simp only [sizesOk] at h
   cases hx : f.ht x with
   | none => rw [hx] at h; cases h
   | some y =>
     rw [hx] at h
     simp only [Bool.and_eq_true] at h
     rcases List.mem_cons.1 hn with rfl | hn
     · exact ht_nameB hv hx
     · exact sizes_nameB hv l _ h.2 n hn
theorem part_nameB {f : Font} (hv : f.valid = true) {s : Stretch} (hs : s ∈ f.stretches) : ∀ q ∈ s.parts, nameB q.name = true := by
 intro q hq
 have h := valid_stretches hv s hs
 simp only [stretchOk, Bool.and_eq_true] at h
 obtain ⟨_, _, h4⟩ := h
 rw [if_neg (by intro e; rw [e] at hq; cases hq)] at h4
 unfold partsOk at h4
 cases hf : partsFold f.ht 60000 false s.parts with
 | none => rw [hf] at h4; cases h4
 | some x =>
   obtain ⟨y, hy⟩ := partsFold_names _ _ _ _ _ hf q hq
   exact ht_nameB hv hy
theorem boxV_of {b : Box} (h1 : b.propB = true) (h2 : b.cnt ≤ 20000) (h3 : b.nest ≤ 100) : b.validB = true := by
 unfold Box.validB
 rw [h1, decide_eq_true h2, decide_eq_true h3]; rfl
theorem find_valid {f : Font} (hv : f.valid = true) {p : Int} (h1 : 1 ≤ p) (h2 : p ≤ 100) {name : ByteArray} (hn : nameB name = true) (need : Int) : (findR f name need p).1.validB = true ∧ -1000400000 ≤ (findR f name need p).1.h - (findR f name need p).1.d ∧ (findR f name need p).1.h - (findR f name need p).1.d ≤ 1000400000 := by
 have hk : checkR f p = 0 := by unfold checkR; rw [if_neg (by simp [hv]), if_neg (by omega)]
 have his := choose_is hv name need p
 obtain ⟨c, hc⟩ : ∃ c, chooseI f name need p = c := ⟨_, rfl⟩
 unfold findR
 rw [if_neg (by simp [hk]), hc]
 rw [hc] at his
 unfold boxR
 rw [if_neg (by simp [hk]), if_neg (by simp [his])]
 have sv : ∀ n, nameB n = true → (sizedR f n p).1.validB = true ∧ -1000400000 ≤ (sizedR f n p).1.h - (sizedR f n p).1.d ∧ (sizedR f n p).1.h - (sizedR f n p).1.d ≤ 1000400000 := fun n hn => by
  have hb := scaled_b hv h1 h2 n
  have hE : -1000400000 ≤ (sizedR f n p).1.h - (sizedR f n p).1.d ∧ (sizedR f n p).1.h - (sizedR f n p).1.d ≤ 1000400000 := by rw [(sizedR_eq hv h1 h2 n).1]; simp only [glyphBox]; omega
  refine ⟨?_, hE⟩
  obtain ⟨j1, j2⟩ := sized_prop hv h1 h2 hn (y := 0) (lenV (by omega) (by omega))
  rw [sized_y0 hv h1 h2] at j1 j2
  have := (sized_ok hv h1 h2 (name_le hn)).2.2
  exact boxV_of j1 (by omega) (by omega)
 by_cases h0 : c.rep = 0
 · rw [if_pos h0]
   refine sv _ ?_
   unfold isR at his
   cases hst : f.stretch name with
   | none => rw [hst] at his; simp [h0] at his; rw [his]; exact hn
   | some s =>
     rw [hst] at his
     simp [h0] at his
     have hs := (stretchO_mem hst).1
     have h := valid_stretches hv s hs
     simp only [stretchOk, Bool.and_eq_true] at h
     exact sizes_nameB hv _ _ h.2.1 _ (hasS_in his)
 · rw [if_neg h0]
   obtain ⟨s, hst, hpn, r1, r2, _⟩ := isR_rep (cg := c.glyph) (cr := c.rep) h0 his
   have hs := (stretchO_mem hst).1
   obtain ⟨_, _, g3, g4, g5, g6⟩ := good_of hv hs
   have hl := pieces_len r1 r2 s.parts
   have hnm : ∀ q ∈ piecesL c.rep s.parts, nameB q.name = true ∧ s.overlap < (f.pick q.name).height := fun q hq => ⟨part_nameB hv hs q (pieces_in hq), g6 q (pieces_in hq)⟩
   obtain ⟨i1, i2⟩ := asm_prop hv h1 h2 s.overlap g4 (piecesL c.rep s.parts) 0 (by omega) (by omega) hnm
   obtain ⟨k1, k2, k3, k4, k5⟩ := piece_ok hv h1 h2 s.overlap (piecesL c.rep s.parts) 0 fun q hq => name_le (hnm q hq).1
   have hw := k5 0 (by omega) (by omega)
   obtain ⟨t1, t2⟩ := tallI_bound hv hs r1 r2
   have hh := scale_bd (n := tallI f s c.rep) (p := p) t1 t2 (by omega) h2
   rw [hst]
   simp only [Option.getD_some, asmBox]
   refine ⟨boxV_of ?_ ?_ ?_, by omega, by omega⟩
   · have q1 : lenValid (maxW 0 (asmKids f s.overlap p 0 (piecesL c.rep s.parts))) = true := lenV (by omega) (by omega)
     have q2 : lenValid (scale (tallI f s c.rep) p) = true := lenV (by omega) (by omega)
     have q3 : lenValid 0 = true := lenV (by omega) (by omega)
     simp [Box.propB, Box.ownB, Box.lens, Box.kindB, Box.srcB, q1, q2, q3, i1, posB, srcOf]
   · simp only [Box.cnt]; omega
   · simp only [Box.nest]; omega
theorem half_b {n : Int} (h1 : -1000400000 ≤ n) (h2 : n ≤ 1000400000) : -500200001 ≤ half n ∧ half n ≤ 500200001 ∧ -1 ≤ n - 2 * half n ∧ n - 2 * half n ≤ 1 := by
 unfold half
 rw [if_pos (lenV (by omega) (by omega))]
 unfold rnd
 split <;> omega
theorem axis_b {f : Font} (hv : f.valid = true) {p : Int} (h1 : 1 ≤ p) (h2 : p ≤ 100) : 0 ≤ dlAxis f p ∧ dlAxis f p ≤ 20001 := by
 have hp : paramsOk f.params = true := by simp only [Font.valid, Bool.and_eq_true] at hv; exact hv.1.2.2
 simp [paramsOk, inB, Params.lens] at hp
 unfold dlAxis
 have m1 : 0 ≤ f.params.axis * p := Int.mul_nonneg (by omega) (by omega)
 have m2 := Int.mul_le_mul_of_nonneg_left h2 (show 0 ≤ f.params.axis by omega)
 rw [← rnd_scale (by omega) (by omega) (by omega) (by omega)]
 unfold rnd
 rw [if_pos m1]
 omega
theorem dlMake_ok {f : Font} (hv : f.valid = true) {p : Int} (h1 : 1 ≤ p) (h2 : p ≤ 100) {name : ByteArray} (hn : nameB name = true) (need : Int) : (name = dot_ ∧ dlMake f name need p = (listB 0 0 0 [], 0)) ∨ (name ≠ dot_ ∧ ∃ S, SignOk S ∧ S.validB = true ∧ (findR f name need p).1 = S ∧ lenValid (dlAxis f p - half (S.h - S.d)) = true ∧ lenValid (S.h - S.d) = true ∧ dlMake f name need p = (S.at_ S.x (dlAxis f p - half (S.h - S.d)), 0)) := by
 unfold dlMake
 rw [if_neg (by simp [hv, hn]), if_neg (by omega)]
 by_cases hd : name = dot_
 · rw [if_pos hd]; exact .inl ⟨hd, rfl⟩
 · rw [if_neg hd]
   refine .inr ⟨hd, _, (find_ok hv h1 h2 (name_le hn) need).2, (find_valid hv h1 h2 hn need).1, rfl, ?_⟩
   have hs := (find_ok hv h1 h2 (name_le hn) need).2
   obtain ⟨hb, b1, b2⟩ := find_valid hv h1 h2 hn need
   obtain ⟨S, hS⟩ : ∃ S, (findR f name need p).1 = S := ⟨_, rfl⟩
   rw [hS] at hs hb b1 b2 ⊢
   obtain ⟨a1, a2⟩ := axis_b hv h1 h2
   obtain ⟨c1, c2, _⟩ := half_b b1 b2
   have q1 : lenValid (dlAxis f p) = true := lenV (by omega) (by omega)
   have q2 : lenValid (S.h - S.d) = true := lenV (by omega) (by omega)
   have q3 : lenValid (dlAxis f p - half (S.h - S.d)) = true := lenV (by omega) (by omega)
   refine ⟨q3, q2, ?_⟩
   unfold centerR
   rw [if_neg (by simp [hb]), if_neg (by simp [q1, q2]), if_neg (by simp [q3])]
end Go.Proofs.YthbcljjpmdfflaaGreat
