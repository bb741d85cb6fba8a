import Derived.Test.YthbcljjpmdfflaaGreatG6
/-
 Plain Lean: what layer 6 computes; what a valid font grants.
-/
namespace Go.Proofs.YthbcljjpmdfflaaGreat
def checkR (f : Font) (p : Int) : Int := if f.valid = false then 1 else if p < 1 ∨ 100 < p then 2 else 0
def times (r : Int) (q : Part) : Int := if q.ext = true then r else 1
def tallF (f : Font) (r : Int) : Int → Int → List Part → Int × Int
 | h, c, [] => (h, c)
 | h, c, q :: l => tallF f r (h + times r q * (f.pick q.name).height) (c + times r q) l
def tallI (f : Font) (s : Stretch) (r : Int) : Int := (tallF f r 0 0 s.parts).1 - ((tallF f r 0 0 s.parts).2 - 1) * s.overlap
def sizeH (f : Font) (name : ByteArray) (p : Int) : Int := (scaledR (f.pick name) p).1.h + (scaledR (f.pick name) p).1.d
structure Choice where
 glyph : ByteArray
 rep : Int
theorem small_of_ok {g : Glyph} (h : glyphOk g = true) : g.Small := by
 simp [glyphOk, inB] at h
 unfold Glyph.Small
 omega
theorem small_zero (name : ByteArray) : ({ Glyph.zero with name := name } : Glyph).Small := by simp [Glyph.Small, Glyph.zero]
theorem glyphsOk_all : ∀ (l seen : List Glyph), glyphsOk seen l = true → ∀ g ∈ l, glyphOk g = true
 | [], _, _, g, hg => by cases hg
 | x :: r, seen, h, g, hg => by
   simp only [glyphsOk, Bool.and_eq_true] at h
   rcases List.mem_cons.1 hg with rfl | hg
   · exact h.1.1
   · exact glyphsOk_all r _ h.2 g hg
theorem stretchesOk_all (ht : ByteArray → Option Int) : ∀ (l seen : List Stretch), stretchesOk ht seen l = true → ∀ s ∈ l, stretchOk ht s = true
 | [], _, _, g, hg => by cases hg
 | x :: r, seen, h, g, hg => by
   simp only [stretchesOk, Bool.and_eq_true] at h
   rcases List.mem_cons.1 hg with rfl | hg
   · exact h.1.1
   · exact stretchesOk_all ht r _ h.2 g hg
theorem valid_glyphs {f : Font} (h : f.valid = true) : ∀ g ∈ f.glyphs, glyphOk g = true := by
 simp only [Font.valid, Bool.and_eq_true] at h
 exact glyphsOk_all _ _ h.2.1
theorem pick_small {f : Font} (h : f.valid = true) (name : ByteArray) : (f.pick name).Small := by
 unfold Font.pick
 cases h1 : f.find name with
 | some g => exact small_of_ok (valid_glyphs h g (findO_mem h1))
 | none =>
   cases h2 : f.find ⟨#[63]⟩ with
   | some g => exact small_of_ok (valid_glyphs h g (findO_mem h2))
   | none => exact small_zero name
theorem valid_stretches {f : Font} (h : f.valid = true) : ∀ s ∈ f.stretches, stretchOk f.ht s = true := by
 simp only [Font.valid, Bool.and_eq_true] at h
 exact stretchesOk_all _ _ _ h.2.2
theorem stretchO_mem {name : ByteArray} {s : Stretch} : ∀ {l : List Stretch}, stretchO name l = some s → s ∈ l ∧ s.name = name
 | [], h => by simp [stretchO] at h
 | x :: r, h => by
   simp only [stretchO] at h
   split at h
   · simp only [Option.some.injEq] at h; subst h; exact ⟨by simp, by assumption⟩
   · have := stretchO_mem h; exact ⟨List.mem_cons_of_mem _ this.1, this.2⟩
theorem partsFold_le (ht : ByteArray → Option Int) : ∀ (l : List Part) (a : Int) (e : Bool) (b : Int) (e' : Bool), partsFold ht a e l = some (b, e') → b ≤ a ∧ ∀ q ∈ l, ∃ h, ht q.name = some h ∧ b ≤ h
 | [], a, e, b, e', h => by simp [partsFold] at h; exact ⟨by omega, by simp⟩
 | q :: r, a, e, b, e', h => by
   simp only [partsFold] at h
   cases hq : ht q.name with
   | none => rw [hq] at h; cases h
   | some y =>
     rw [hq] at h
     obtain ⟨h1, h2⟩ := partsFold_le ht r _ _ b e' h
     have hb : b ≤ a ∧ b ≤ y := by split at h1 <;> omega
     refine ⟨hb.1, fun x hx => ?_⟩
     rcases List.mem_cons.1 hx with rfl | hx
     · exact ⟨y, hq, hb.2⟩
     · exact h2 x hx
structure GoodS (f : Font) (s : Stretch) : Prop where
 sizes1 : 1 ≤ s.sizes.length
 sizes2 : s.sizes.length ≤ 16
 parts : s.parts.length ≤ 8
 over1 : 0 ≤ s.overlap
 over2 : s.overlap ≤ 60000
 tall : ∀ q ∈ s.parts, s.overlap < (f.pick q.name).height
theorem ht_pick {f : Font} {name : ByteArray} {h : Int} (e : f.ht name = some h) : (f.pick name).height = h := by
 simp only [Font.ht, Option.map_eq_some_iff] at e
 obtain ⟨g, hg, rfl⟩ := e
 simp [Font.pick, hg]
theorem good_of {f : Font} (hv : f.valid = true) {s : Stretch} (hs : s ∈ f.stretches) : GoodS f s := by
 have h := valid_stretches hv s hs
 simp only [stretchOk, Bool.and_eq_true] at h
 obtain ⟨⟨_, h1, h2⟩, h3, h4⟩ := h
 simp [inB] at h1 h2
 by_cases hp : s.parts = []
 · rw [if_pos hp] at h4
   simp at h4
   exact ⟨by omega, by omega, h2, by omega, by omega, by simp [hp]⟩
 · rw [if_neg hp] at h4
   unfold partsOk at h4
   cases hf : partsFold f.ht 60000 false s.parts with
   | none => rw [hf] at h4; cases h4
   | some x =>
     obtain ⟨b, e⟩ := x
     rw [hf] at h4
     simp [inB] at h4
     obtain ⟨hb, hq⟩ := partsFold_le _ _ _ _ _ _ hf
     refine ⟨by omega, by omega, h2, by omega, by omega, fun q hm => ?_⟩
     obtain ⟨y, hy, hby⟩ := hq q hm
     rw [ht_pick hy]
     omega
def firstSize (f : Font) (p need : Int) : List ByteArray → Option ByteArray
 | [] => none
 | n :: r => if need ≤ sizeH f n p then some n else firstSize f p need r
def srch (f : Font) (s : Stretch) (p need : Int) : Nat → Int
 | 0 => 1000
 | n + 1 => if need ≤ scale (tallI f s (1000 - ((n : Int) + 1))) p then 1000 - ((n : Int) + 1) else srch f s p need n
def chooseS (f : Font) (s : Stretch) (need p : Int) : Choice :=
 match firstSize f p need s.sizes with
 | some n => ⟨n, 0⟩
 | none => if s.parts = [] then ⟨s.sizes.getD (s.sizes.length - 1) ⟨#[]⟩, 0⟩ else ⟨⟨#[]⟩, srch f s p need 999⟩
def chooseI (f : Font) (name : ByteArray) (need p : Int) : Choice :=
 match f.stretch name with
 | none => ⟨name, 0⟩
 | some s => chooseS f s need p
def choiceV (c : Choice) : V := .agg [.c (.str c.glyph), .c (.int .i64 c.rep)]
def piecesL (r : Int) : List Part → List Part
 | [] => []
 | q :: l => List.replicate (times r q).toNat q ++ piecesL r l
def pieceBox (f : Font) (p bottom : Int) (q : Part) : Box := { (sizedR f q.name p).1 with y := scale bottom p + (sizedR f q.name p).1.d }
def asmKids (f : Font) (ov p : Int) : Int → List Part → List Box
 | _, [] => []
 | b, q :: l => pieceBox f p b q :: asmKids f ov p (b + ((f.pick q.name).height - ov)) l
def maxW : Int → List Box → Int
 | m, [] => m
 | m, b :: l => maxW (mx m b.w) l
def asmBox (f : Font) (s : Stretch) (r p : Int) : Box := ⟨3, ⟨#[]⟩, 0, maxW 0 (asmKids f s.overlap p 0 (piecesL r s.parts)), scale (tallI f s r) p, 0, 0, 0, asmKids f s.overlap p 0 (piecesL r s.parts), 0, []⟩
def hasS (x : ByteArray) : List ByteArray → Bool
 | [] => false
 | y :: r => if y = x then true else hasS x r
def isR (f : Font) (name : ByteArray) (c : Choice) : Bool :=
 match f.stretch name with
 | none => decide (c.rep = 0) && decide (c.glyph = name)
 | some s => if c.rep = 0 then hasS c.glyph s.sizes else decide (c.glyph = ⟨#[]⟩) && (decide (0 < s.parts.length) && (decide (1 ≤ c.rep) && decide (c.rep ≤ 1000)))
def boxR (f : Font) (name : ByteArray) (c : Choice) (p : Int) : Box × Int :=
 if checkR f p ≠ 0 then (Box.zero, checkR f p)
 else if isR f name c = false then (Box.zero, 8)
 else if c.rep = 0 then ((sizedR f c.glyph p).1, 0)
 else (asmBox f ((f.stretch name).getD Stretch.zero) c.rep p, 0)
def chooseR (f : Font) (name : ByteArray) (need p : Int) : Choice × Int :=
 if checkR f p ≠ 0 then (⟨⟨#[]⟩, 0⟩, checkR f p) else (chooseI f name need p, 0)
end Go.Proofs.YthbcljjpmdfflaaGreat
namespace Go.Proofs.YthbcljjpmdfflaaGreat
open Go.RowKit
set_option linter.unusedSimpArgs false
set_option linter.unusedVariables false
set_option maxRecDepth 100000
theorem pick_found {f : Font} {name : ByteArray} {g : Glyph} (h : f.find name = some g) : f.pick name = g := by simp [Font.pick, h]
theorem times_bound {r : Int} (h1 : 1 ≤ r) (h2 : r ≤ 1000) (q : Part) : 1 ≤ times r q ∧ times r q ≤ 1000 := by unfold times; split <;> omega
theorem sizedR_eq {f : Font} (hv : f.valid = true) {p : Int} (h1 : 1 ≤ p) (h2 : p ≤ 100) (name : ByteArray) : sizedR f name p = (glyphBox ((f.pick name).scaled p) p, 0) ∧ scaledR (f.pick name) p = ((f.pick name).scaled p, 0) := by
 have hs := pick_small hv name
 have e : scaledR (f.pick name) p = ((f.pick name).scaled p, 0) := by
  unfold scaledR
  rw [if_neg (by simp [inB]; omega), if_neg]
  unfold Glyph.Small at hs
  simp [inB, Glyph.mets]
  omega
 unfold sizedR
 rw [e]
 simp
theorem scaled_b {f : Font} (hv : f.valid = true) {p : Int} (h1 : 1 ≤ p) (h2 : p ≤ 100) (name : ByteArray) : (-200000 ≤ ((f.pick name).scaled p).w ∧ ((f.pick name).scaled p).w ≤ 200000) ∧ (-200000 ≤ ((f.pick name).scaled p).h ∧ ((f.pick name).scaled p).h ≤ 200000) ∧ (-200000 ≤ ((f.pick name).scaled p).d ∧ ((f.pick name).scaled p).d ≤ 200000) ∧ (-200000 ≤ ((f.pick name).scaled p).italic ∧ ((f.pick name).scaled p).italic ≤ 200000) := by
 have hs := pick_small hv name
 unfold Glyph.Small at hs
 exact scaled_small _ _ (by simp [inB]; omega) (by simp [inB, Glyph.mets]; omega)
theorem sized_hd {f : Font} (hv : f.valid = true) {p : Int} (h1 : 1 ≤ p) (h2 : p ≤ 100) (name : ByteArray) : IntKind.i64.wrap ((sizedR f name p).1.h + (sizedR f name p).1.d) = sizeH f name p := by
 obtain ⟨e1, e2⟩ := sizedR_eq hv h1 h2 name
 have := scaled_b hv h1 h2 name
 rw [e1]
 unfold sizeH
 rw [e2]
 exact wrap_i64 (by simp only [glyphBox]; omega) (by simp only [glyphBox]; omega)
theorem tallF_bound (f : Font) (r : Int) (hsm : ∀ name, (f.pick name).Small) (h1 : 1 ≤ r) (h2 : r ≤ 1000) : ∀ (l : List Part) (h c : Int), h - 40000000 * (l.length : Int) ≤ (tallF f r h c l).1 ∧ (tallF f r h c l).1 ≤ h + 40000000 * (l.length : Int) ∧ c + (l.length : Int) ≤ (tallF f r h c l).2 ∧ (tallF f r h c l).2 ≤ c + 1000 * (l.length : Int)
 | [], h, c => by simp [tallF]
 | q :: l, h, c => by
   have ih := tallF_bound f r hsm h1 h2 l (h + times r q * (f.pick q.name).height) (c + times r q)
   have hs := hsm q.name
   unfold Glyph.Small at hs
   obtain ⟨t1, t2⟩ := times_bound h1 h2 q
   have m := mul_bound (f.pick q.name).height (times r q) 40000 1000 (by unfold Glyph.height; omega) (by unfold Glyph.height; omega) (by omega) t2
   rw [Int.mul_comm (f.pick q.name).height] at m
   simp only [tallF, List.length_cons] at ih ⊢
   simp only [Int.natCast_add, Int.natCast_one] at ih ⊢
   omega
theorem tallI_bound {f : Font} (hv : f.valid = true) {s : Stretch} (hs : s ∈ f.stretches) {r : Int} (h1 : 1 ≤ r) (h2 : r ≤ 1000) : -1000000000 ≤ tallI f s r ∧ tallI f s r ≤ 1000000000 := by
 obtain ⟨_, _, g3, g4, g5, g6⟩ := good_of hv hs
 have := tallF_bound f r (pick_small hv) h1 h2 s.parts 0 0
 have m := mul_bound s.overlap ((tallF f r 0 0 s.parts).2) 60000 8000 (by omega) g5 (by omega) (by omega)
 rw [Int.mul_comm s.overlap] at m
 unfold tallI
 rw [Int.sub_mul]
 omega
theorem rnd_scale {n p : Int} (h1 : -1073741824 ≤ n) (h2 : n ≤ 1073741824) (h3 : 0 ≤ p) (h4 : p ≤ 10000) : rnd (n * p) 100 = scale n p := by
 unfold scale
 rw [if_pos ⟨by simp [lenValid]; omega, by omega, by omega⟩]
def heightI (f : Font) (name : ByteArray) (c : Choice) (p : Int) : Int := if c.rep = 0 then sizeH f c.glyph p else scale (tallI f ((f.stretch name).getD Stretch.zero) c.rep) p
theorem srch_step (f : Font) (s : Stretch) (p need r : Int) (h1 : 1 ≤ r) (h2 : r < 1000) : srch f s p need (1000 - r).toNat = if need ≤ scale (tallI f s r) p then r else srch f s p need (1000 - (r + 1)).toNat := by
 obtain ⟨n, hn⟩ : ∃ n : Nat, r = 1000 - ((n : Int) + 1) := ⟨(999 - r).toNat, by omega⟩
 subst hn
 have e1 : (1000 - (1000 - ((n : Int) + 1))).toNat = n + 1 := by omega
 have e2 : (1000 - (1000 - ((n : Int) + 1) + 1)).toNat = n := by omega
 rw [e1, e2]
 rfl
def choiceEV (q : Choice × Int) : V := .tup [choiceV q.1, errV q.2]
theorem maxW_snoc : ∀ (l : List Box) (m : Int) (b : Box), maxW m (l ++ [b]) = mx (maxW m l) b.w
 | [], m, b => rfl
 | x :: l, m, b => by simp only [List.cons_append, maxW]; exact maxW_snoc l _ b
theorem rows_snoc : ∀ (l : List Box) (b : Box), Box.rows (l ++ [b]) = Box.rows l ++ [b.row]
 | [], b => rfl
 | x :: l, b => by simp only [List.cons_append, Box.rows]; rw [rows_snoc l b]
@[simp] theorem rows_len : ∀ (l : List Box), (Box.rows l).length = l.length
 | [] => rfl
 | x :: l => by simp only [Box.rows, List.length_cons]; rw [rows_len l]
theorem pieces_len {r : Int} (h1 : 1 ≤ r) (h2 : r ≤ 1000) : ∀ l : List Part, (piecesL r l).length ≤ 1000 * l.length
 | [] => by simp [piecesL]
 | q :: l => by
   have := pieces_len h1 h2 l
   obtain ⟨t1, t2⟩ := times_bound h1 h2 q
   simp only [piecesL, List.length_append, List.length_replicate, List.length_cons]
   omega
theorem scale_lb {n p : Int} (h1 : 0 ≤ n) (h2 : n ≤ 1000000000) (h3 : 0 ≤ p) (h4 : p ≤ 100) : 0 ≤ scale n p ∧ scale n p ≤ 1000000001 := by
 have hm : 0 ≤ n * p := Int.mul_nonneg h1 h3
 have hm2 : n * p ≤ n * 100 := Int.mul_le_mul_of_nonneg_left h4 h1
 rw [← rnd_scale (by omega) (by omega) h3 (by omega)]
 unfold rnd
 rw [if_pos hm]
 omega
def lstC (w h : Int) (kids : V) : List V := [.c (.int .i64 3), .c (.str ⟨#[]⟩), .c (.int .i64 0), .c (.int .i64 w), .c (.int .i64 h), .c (.int .i64 0), .c (.int .i64 0), .c (.int .i64 0), kids, .c (.int .i64 0), .full []]
def zboxC : List V := [.c (.int .i64 0), .c (.str ⟨#[]⟩), .c (.int .i64 0), .c (.int .i64 0), .c (.int .i64 0), .c (.int .i64 0), .c (.int .i64 0), .c (.int .i64 0), .full [], .c (.int .i64 0), .full []]
theorem check_zero {f : Font} {p : Int} (hk : checkR f p = 0) : f.valid = true ∧ 1 ≤ p ∧ p ≤ 100 := by
 unfold checkR at hk
 have hv : f.valid = true := by cases h : f.valid <;> simp [h] at hk; rfl
 rw [if_neg (by simp [hv])] at hk
 refine ⟨hv, ?_⟩
 split at hk <;> omega
theorem isR_rep {f : Font} {name cg : ByteArray} {cr : Int} (h0 : ¬ cr = 0) (hi : isR f name ⟨cg, cr⟩ = true) : ∃ s, f.stretch name = some s ∧ s.parts ≠ [] ∧ 1 ≤ cr ∧ cr ≤ 1000 ∧ cg = ⟨#[]⟩ := by
 unfold isR at hi
 cases hst : f.stretch name with
 | none => rw [hst] at hi; simp [h0] at hi
 | some s =>
   rw [hst] at hi
   simp [h0] at hi
   exact ⟨s, rfl, List.length_pos_iff.1 hi.2.1, by omega, by omega, hi.1⟩
def findR (f : Font) (name : ByteArray) (need p : Int) : Box × Int := if checkR f p ≠ 0 then (Box.zero, checkR f p) else boxR f name (chooseI f name need p) p
end Go.Proofs.YthbcljjpmdfflaaGreat
namespace Go.Proofs.YthbcljjpmdfflaaGreat
open Go.RowKit
set_option linter.unusedSimpArgs false
set_option linter.unusedVariables false
set_option maxRecDepth 100000
theorem rcheck_a (f : Font) (p : Int) (hf : f.Fit) : AC Tryz.prog 94 [.agg f.vs, .c (.int .i64 p)] (errV (checkR f p)) := by
 cases hv : f.valid with
 | false =>
   refine en Tryz.func94 Tryz.ntmps94 ?_
   refine go0 ?_
   refine gc @hv (rvalid_a f hf) Tryz.func23 ?_
   refine go0 ?_
   simp [aRet, ares, aresL, ares1, V.pub, V.pubs, ldV, Tryz.results94, errV, checkR, hv]
 | true =>
   by_cases h1 : p < 1
   · refine en Tryz.func94 Tryz.ntmps94 ?_
     refine go0 ?_
     refine gc @hv (rvalid_a f hf) Tryz.func23 ?_
     refine go @h1 ?_
     simp [aRet, ares, aresL, ares1, V.pub, V.pubs, ldV, Tryz.results94, errV, checkR, hv, h1]
   · by_cases h2 : 100 < p
     · refine en Tryz.func94 Tryz.ntmps94 ?_
       refine go0 ?_
       refine gc @hv (rvalid_a f hf) Tryz.func23 ?_
       refine go (cj @h1 <| @h2) ?_
       simp [aRet, ares, aresL, ares1, V.pub, V.pubs, ldV, Tryz.results94, errV, checkR, hv, h1, h2]
     · refine en Tryz.func94 Tryz.ntmps94 ?_
       refine go0 ?_
       refine gc @hv (rvalid_a f hf) Tryz.func23 ?_
       refine go (cj @h1 <| @h2) ?_
       simp [aRet, ares, aresL, ares1, V.pub, V.pubs, ldV, Tryz.results94, errV, checkR, hv, h1, h2]
theorem rsize_a (f : Font) (name : ByteArray) (p : Int) (hl : f.glyphs.length ≤ maxLen) : AC Tryz.prog 100 [.agg f.vs, .c (.str name), .c (.int .i64 p)] (boxV (sizedR f name p).1) := by
 have hc := sized_a f name p hl
 obtain ⟨q, hq⟩ : ∃ q, sizedR f name p = q := ⟨_, rfl⟩
 rw [hq] at hc ⊢
 obtain ⟨b, e⟩ := q
 obtain ⟨k, n, s, w, h, d, x, y, kids, o, src⟩ := b
 simp only [boxEV, boxV, errV, Box.row, List.map_cons, List.map_nil] at hc ⊢
 refine en Tryz.func100 Tryz.ntmps100 ?_
 refine go0 ?_
 refine gc0 (hc) Tryz.func108 ?_
 refine go0 ?_
 simp [aRet, ares, aresL, ares1, V.pub, V.pubs, ldV, Tryz.results100]
theorem ris_a (f : Font) (name : ByteArray) (c : Choice) (hl : f.stretches.length ≤ maxLen) (hz : ∀ s ∈ f.stretches, s.sizes.length ≤ 1000) : AC Tryz.prog 99 [.agg f.vs, .c (.str name), choiceV c] (.c (.bool (isR f name c))) := by
 obtain ⟨cg, cr⟩ := c
 unfold choiceV
 cases hst : f.stretch name with
 | none =>
   have hR : isR f name ⟨cg, cr⟩ = (decide (cr = 0) && decide (cg = name)) := by unfold isR; rw [hst]
   by_cases h1 : cr = 0
   · subst h1
     refine en Tryz.func99 Tryz.ntmps99 ?_
     refine go0 ?_
     refine gc (cj @foundS.eq_1 <| cj @stretchV.eq_1 <| cj @Stretch.row.eq_1 <| cj @hst <| @Stretch.zero.eq_1) (rstretch_a f name hl) Tryz.func95 ?_
     refine go0 ?_
     simp [aRet, ares, aresL, ares1, V.pub, V.pubs, ldV, Tryz.results99, hR]
   · refine en Tryz.func99 Tryz.ntmps99 ?_
     refine go0 ?_
     refine gc (cj @foundS.eq_1 <| cj @stretchV.eq_1 <| cj @Stretch.row.eq_1 <| cj @hst <| @Stretch.zero.eq_1) (rstretch_a f name hl) Tryz.func95 ?_
     refine go @h1 ?_
     simp [aRet, ares, aresL, ares1, V.pub, V.pubs, ldV, Tryz.results99, hR, h1]
 | some s =>
   have hsl := hz s (stretchO_mem hst).1
   have hR : isR f name ⟨cg, cr⟩ = if cr = 0 then hasS cg s.sizes else decide (cg = ⟨#[]⟩) && (decide (0 < s.parts.length) && (decide (1 ≤ cr) && decide (cr ≤ 1000))) := by unfold isR; rw [hst]
   by_cases h1 : cr = 0
   · rw [if_pos h1] at hR
     subst h1
     refine en Tryz.func99 Tryz.ntmps99 ?_
     refine go0 ?_
     refine gc (cj @foundS.eq_1 <| cj @stretchV.eq_1 <| cj @Stretch.row.eq_1 <| @hst) (rstretch_a f name hl) Tryz.func95 ?_
     refine go0 ?_
     refine lp (ι := { k : Nat // k ≤ s.sizes.length ∧ hasS cg s.sizes = hasS cg (s.sizes.drop k) }) (fun k => [(9, .c (.int .i64 (k.1 : Int))), (6, .c (.bool false))]) (fun _ => [.box 27 f.vs false, .box 100 [.c (.str cg), .c (.int .i64 0)] false, .box 61 (s.row.map V.c) false]) (fun k => s.sizes.length - k.1) ⟨0, by simp⟩ ?_ ?_
     all_goals simp only [puts, List.foldl_cons, List.foldl_nil, List.set_cons_zero, List.set_cons_succ]
     · refine Le.weak (by simp [subT, Stretch.row])
     · rintro ⟨k, hk, hI⟩
       by_cases hlt : k < s.sizes.length
       · obtain ⟨n, hn⟩ : ∃ n, s.sizes[k] = n := ⟨_, rfl⟩
         rw [List.drop_eq_getElem_cons hlt, hn] at hI
         simp only [hasS] at hI
         by_cases he : n = cg
         · rw [if_pos he] at hI
           rw [hI] at hR
           refine go (cj @hlt <| cj @hn <| cj @he <| cj @Stretch.row.eq_1 <| @sizesC.eq_1) ?_
           simp [aRet, ares, aresL, ares1, V.pub, V.pubs, ldV, Tryz.results99, hR]
         · rw [if_neg he] at hI
           have hw : IntKind.i64.wrap ((k : Int) + 1) = ((k + 1 : Nat) : Int) := by rw [wrap_i64 (by omega) (by omega)]; simp
           refine go (cj @hlt <| cj @hn <| cj @he <| cj @Stretch.row.eq_1 <| cj @sizesC.eq_1 <| @hw) ?_
           refine ⟨⟨k + 1, by omega, hI⟩, by simp only; omega, ?_⟩
           refine Le.weak (by simp [subT, Stretch.row, sizesC])
       · have e : hasS cg s.sizes = false := by rw [hI, List.drop_of_length_le (by omega)]; rfl
         rw [e] at hR
         refine go (cj @hlt <| cj @Stretch.row.eq_1 <| @sizesC.eq_1) ?_
         simp [aRet, ares, aresL, ares1, V.pub, V.pubs, ldV, Tryz.results99, hR]
   · rw [if_neg h1] at hR
     by_cases h2 : cg = ⟨#[]⟩
     · subst h2
       by_cases h3 : (0 : Int) < (s.parts.length : Int)
       · have h3' : 0 < s.parts.length := by omega
         by_cases h4 : 1 ≤ cr
         · refine en Tryz.func99 Tryz.ntmps99 ?_
           refine go0 ?_
           refine gc (cj @foundS.eq_1 <| cj @stretchV.eq_1 <| cj @Stretch.row.eq_1 <| @hst) (rstretch_a f name hl) Tryz.func95 ?_
           refine go (cj @h1 <| cj @h3 <| cj @h3' <| cj @h4 <| @partsC.eq_1) ?_
           simp [aRet, ares, aresL, ares1, V.pub, V.pubs, ldV, Tryz.results99, hR, h3', h4]
         · refine en Tryz.func99 Tryz.ntmps99 ?_
           refine go0 ?_
           refine gc (cj @foundS.eq_1 <| cj @stretchV.eq_1 <| cj @Stretch.row.eq_1 <| @hst) (rstretch_a f name hl) Tryz.func95 ?_
           refine go (cj @h1 <| cj @h3 <| cj @h3' <| cj @h4 <| @partsC.eq_1) ?_
           simp [aRet, ares, aresL, ares1, V.pub, V.pubs, ldV, Tryz.results99, hR, h3', h4]
       · have h3' : ¬ 0 < s.parts.length := by omega
         have h3'' : s.parts = [] := List.eq_nil_of_length_eq_zero (by omega)
         refine en Tryz.func99 Tryz.ntmps99 ?_
         refine go0 ?_
         refine gc (cj @foundS.eq_1 <| cj @stretchV.eq_1 <| cj @Stretch.row.eq_1 <| @hst) (rstretch_a f name hl) Tryz.func95 ?_
         refine go (cj @h1 <| cj @h3'' <| @partsC.eq_1) ?_
         simp [aRet, ares, aresL, ares1, V.pub, V.pubs, ldV, Tryz.results99, hR, h3'']
     · refine en Tryz.func99 Tryz.ntmps99 ?_
       refine go0 ?_
       refine gc (cj @foundS.eq_1 <| cj @stretchV.eq_1 <| cj @Stretch.row.eq_1 <| @hst) (rstretch_a f name hl) Tryz.func95 ?_
       refine go (cj @h1 <| @h2) ?_
       simp [aRet, ares, aresL, ares1, V.pub, V.pubs, ldV, Tryz.results99, hR, h2]
theorem parts_found {f : Font} (hv : f.valid = true) {s : Stretch} (hs : s ∈ f.stretches) : ∀ q ∈ s.parts, ∃ g, f.find q.name = some g := by
 have h := valid_stretches hv s hs
 simp only [stretchOk, Bool.and_eq_true] at h
 obtain ⟨⟨_, _, _⟩, _, h4⟩ := h
 intro q hq
 have hp : ¬ s.parts = [] := fun e => by rw [e] at hq; cases hq
 rw [if_neg hp] at h4
 unfold partsOk at h4
 cases hf : partsFold f.ht 60000 false s.parts with
 | none => rw [hf] at h4; cases h4
 | some x =>
   obtain ⟨b, e⟩ := x
   obtain ⟨_, hall⟩ := partsFold_le _ _ _ _ _ _ hf
   obtain ⟨h, hh, _⟩ := hall q hq
   simp only [Font.ht, Option.map_eq_some_iff] at hh
   obtain ⟨g, hg, _⟩ := hh
   exact ⟨g, hg⟩
set_option maxHeartbeats 3200000 in
theorem rTall_a (f : Font) (s : Stretch) (r : Int) (hf : f.Fit) (hv : f.valid = true) (hs : s ∈ f.stretches) (hr1 : 1 ≤ r) (hr2 : r ≤ 1000) (hp : s.parts ≠ []) : AC Tryz.prog 98 [.agg f.vs, stretchV s, .c (.int .i64 r)] (.c (.int .i64 (tallI f s r))) := by
 obtain ⟨_, _, g3, g4, g5, g6⟩ := good_of hv hs
 have hfound := parts_found hv hs
 have hok := valid_glyphs hv
 have hpl : 0 < s.parts.length := List.length_pos_iff.2 hp
 have hT : tallI f s r = (tallF f r 0 0 s.parts).1 - ((tallF f r 0 0 s.parts).2 - 1) * s.overlap := rfl
 unfold stretchV
 refine AC.intro Tryz.func98 rfl ?_
 simp only [Tryz.ntmps98, List.map_cons, List.map_nil, List.length_cons, List.length_nil, Nat.reduceAdd, Nat.reduceSub, List.replicate_succ, List.replicate_zero, List.cons_append, List.nil_append, Stretch.row]
 refine go0 ?_
 refine lp (ι := { q : Nat × Int × Int // q.1 ≤ s.parts.length ∧ tallF f r 0 0 s.parts = tallF f r q.2.1 q.2.2 (s.parts.drop q.1) ∧ -(40000000 * (q.1 : Int)) ≤ q.2.1 ∧ q.2.1 ≤ 40000000 * (q.1 : Int) ∧ (q.1 : Int) ≤ q.2.2 ∧ q.2.2 ≤ 1000 * (q.1 : Int) }) (fun q => [(9, .c (.int .i64 (q.1.1 : Int))), (7, .c (.int .i64 (q.1.2.1 - q.1.2.2 * s.overlap))), (8, .c (.int .i64 q.1.2.2)), (6, .c (.int .i64 0))]) (fun _ => [.box 27 f.vs false, .box 61 (s.row.map V.c) false]) (fun q => s.parts.length - q.1.1) ⟨(0, 0, 0), by simp⟩ ?_ ?_
 all_goals simp only [puts, List.foldl_cons, List.foldl_nil, List.set_cons_zero, List.set_cons_succ]
 · refine Le.weak (by simp [subT, Stretch.row])
 · rintro ⟨⟨k, hh, cc⟩, hk, hI, b1, b2, b3, b4⟩
   simp only at hk hI b1 b2 b3 b4 ⊢
   have hov := mul_bound s.overlap cc 60000 8000 (by omega) g5 (by omega) (by omega)
   rw [Int.mul_comm s.overlap cc] at hov
   by_cases hlt : k < s.parts.length
   · obtain ⟨q, hq⟩ : ∃ q, s.parts[k] = q := ⟨_, rfl⟩
     rw [List.drop_eq_getElem_cons hlt, hq] at hI
     simp only [tallF] at hI
     obtain ⟨g, hg⟩ := hfound s.parts[k] (List.getElem_mem hlt)
     rw [hq] at hg
     obtain ⟨e1, e2, e3⟩ := height_small hok hg
     rw [pick_found hg] at hI
     obtain ⟨t1, t2⟩ := times_bound hr1 hr2 q
     have hw : IntKind.i64.wrap ((k : Int) + 1) = ((k + 1 : Nat) : Int) := by rw [wrap_i64 (by omega) (by omega)]; simp
     have w1 : IntKind.i64.wrap (g.height - s.overlap) = g.height - s.overlap := wrap_i64 (by omega) (by omega)
     have m1 := mul_bound (g.height - s.overlap) (times r q) 100000 1000 (by omega) (by omega) (by omega) t2
     rw [Int.mul_comm (g.height - s.overlap)] at m1
     have m2 := mul_bound g.height (times r q) 40000 1000 (by omega) (by omega) (by omega) t2
     rw [Int.mul_comm g.height] at m2
     have w2 : IntKind.i64.wrap (times r q * (g.height - s.overlap)) = times r q * (g.height - s.overlap) := wrap_i64 (by omega) (by omega)
     have w3 : IntKind.i64.wrap (hh - cc * s.overlap + times r q * (g.height - s.overlap)) = hh - cc * s.overlap + times r q * (g.height - s.overlap) := wrap_i64 (by omega) (by omega)
     have w4 : IntKind.i64.wrap (cc + times r q) = cc + times r q := wrap_i64 (by omega) (by omega)
     have e5 : hh - cc * s.overlap + times r q * (g.height - s.overlap) = (hh + times r q * g.height) - (cc + times r q) * s.overlap := by rw [Int.mul_sub, Int.add_mul]; omega
     rw [e5] at w3
     have e5' := e5
     cases hx : q.ext with
     | true =>
       have ht : times r q = r := by simp [times, hx]
       rw [ht] at w2 w3 w4 hI m2 t1 t2 e5
       refine go (cj @hlt <| cj @hq <| cj @Stretch.row.eq_1 <| cj @partsC.eq_1 <| cj @Part.row.eq_1 <| @hx) ?_
       refine gc (cj @foundV.eq_1 <| cj @hg <| @Glyph.row.eq_1) (rfind_a f q.name hf.gl) Tryz.func75 ?_
       refine go @Stretch.row.eq_1 ?_
       refine gc (cj @e3 <| cj @glyphV.eq_1 <| cj @Glyph.row.eq_1 <| cj @w1 <| cj @w2 <| cj @e5 <| @w3) (rheight_a g) Tryz.func76 ?_
       refine go (cj @w4 <| @hw) ?_
       refine ⟨⟨(k + 1, hh + r * g.height, cc + r), by omega, hI, by simp only; omega, by simp only; omega, by simp only; omega, by simp only; omega⟩, by simp only; omega, ?_⟩
       refine Le.wdrop 2 (Nat.le_of_ble_eq_true rfl) (by simp [subT, Stretch.row, partsC]) (by simp [Stretch.row, partsC]) (by simp [V.bnds, V.bnd]) (by simp [O.bnd, V.bnds, V.bnd, Stretch.row, partsC])
     | false =>
       have ht : times r q = 1 := by simp [times, hx]
       rw [ht] at w2 w3 w4 hI m2 t1 t2 e5
       simp only [Int.one_mul] at w2 w3 e5 hI m2
       refine go (cj @hlt <| cj @hq <| cj @Stretch.row.eq_1 <| cj @partsC.eq_1 <| cj @Part.row.eq_1 <| @hx) ?_
       refine gc (cj @foundV.eq_1 <| cj @hg <| @Glyph.row.eq_1) (rfind_a f q.name hf.gl) Tryz.func75 ?_
       refine go @Stretch.row.eq_1 ?_
       refine gc (cj @e3 <| cj @glyphV.eq_1 <| cj @Glyph.row.eq_1 <| cj @w1 <| cj @w2 <| cj @e5 <| @w3) (rheight_a g) Tryz.func76 ?_
       refine go (cj @w4 <| @hw) ?_
       refine ⟨⟨(k + 1, hh + g.height, cc + 1), by omega, hI, by simp only; omega, by simp only; omega, by simp only; omega, by simp only; omega⟩, by simp only; omega, ?_⟩
       refine Le.wdrop 2 (Nat.le_of_ble_eq_true rfl) (by simp [subT, Stretch.row, partsC]) (by simp [Stretch.row, partsC]) (by simp [V.bnds, V.bnd]) (by simp [O.bnd, V.bnds, V.bnd, Stretch.row, partsC])
   · have e : tallF f r 0 0 s.parts = (hh, cc) := by rw [hI, List.drop_of_length_le (by omega)]; rfl
     have hcc : ¬ cc = 0 := by omega
     have hR : tallI f s r = hh - cc * s.overlap + s.overlap := by rw [hT, e]; simp only [Int.sub_mul]; omega
     have w1 : IntKind.i64.wrap (hh - cc * s.overlap + s.overlap) = hh - cc * s.overlap + s.overlap := wrap_i64 (by omega) (by omega)
     refine go (cj @hlt <| cj @Stretch.row.eq_1 <| cj @partsC.eq_1 <| cj @hcc <| @w1) ?_
     simp [aRet, ares, aresL, ares1, V.pub, V.pubs, ldV, Tryz.results98, hR]
end Go.Proofs.YthbcljjpmdfflaaGreat
namespace Go.Proofs.YthbcljjpmdfflaaGreat
open Go.RowKit
set_option linter.unusedSimpArgs false
set_option linter.unusedVariables false
set_option maxRecDepth 100000
theorem rscale_l {n p : Int} (h1 : -1073741824 ≤ n) (h2 : n ≤ 1073741824) (h3 : 0 ≤ p) (h4 : p ≤ 10000) : AC Tryz.prog 97 [.c (.int .i64 n), .c (.int .i64 p)] (.c (.int .i64 (scale n p))) := by
 rw [← rnd_scale h1 h2 h3 h4]
 exact rscale_a n p (by omega) (by omega) (by omega) (by omega)
theorem rtall_0 (f : Font) (name g : ByteArray) (p : Int) (hf : f.Fit) (hv : f.valid = true) (hp1 : 1 ≤ p) (hp2 : p ≤ 100) : AC Tryz.prog 96 [.agg f.vs, .c (.str name), .agg [.c (.str g), .c (.int .i64 0)], .c (.int .i64 p)] (.c (.int .i64 (sizeH f g p))) := by
 have hc := rsize_a f g p hf.gl
 have hw := sized_hd hv hp1 hp2 g
 obtain ⟨b, hq⟩ : ∃ b, (sizedR f g p).1 = b := ⟨_, rfl⟩
 rw [hq] at hc hw
 obtain ⟨k, n, s, w, h, d, x, y, kids, o, src⟩ := b
 simp only [boxV, Box.row, List.map_cons, List.map_nil] at hc hw
 refine en Tryz.func96 Tryz.ntmps96 ?_
 refine go0 ?_
 refine gc0 (hc) Tryz.func100 ?_
 refine go @hw ?_
 simp [aRet, ares, aresL, ares1, V.pub, V.pubs, ldV, Tryz.results96]
theorem rtall_r (f : Font) (name g : ByteArray) (r p : Int) (s : Stretch) (hf : f.Fit) (hv : f.valid = true) (hp1 : 1 ≤ p) (hp2 : p ≤ 100) (hst : f.stretch name = some s) (hr1 : 1 ≤ r) (hr2 : r ≤ 1000) (hp : s.parts ≠ []) : AC Tryz.prog 96 [.agg f.vs, .c (.str name), .agg [.c (.str g), .c (.int .i64 r)], .c (.int .i64 p)] (.c (.int .i64 (scale (tallI f s r) p))) := by
 have hs := (stretchO_mem hst).1
 obtain ⟨b1, b2⟩ := tallI_bound hv hs hr1 hr2
 have hr0 : ¬ r = 0 := by omega
 refine en Tryz.func96 Tryz.ntmps96 ?_
 refine go @hr0 ?_
 refine gc (cj @foundS.eq_1 <| cj @stretchV.eq_1 <| cj @Stretch.row.eq_1 <| @hst) (rstretch_a f name hf.sl) Tryz.func95 ?_
 refine go0 ?_
 refine gc (cj @stretchV.eq_1 <| @Stretch.row.eq_1) (rTall_a f s r hf hv hs hr1 hr2 hp) Tryz.func98 ?_
 refine gc0 (rscale_l (n := tallI f s r) (p := p) (by omega) (by omega) (by omega) (by omega)) Tryz.func97 ?_
 refine go0 ?_
 simp [aRet, ares, aresL, ares1, V.pub, V.pubs, ldV, Tryz.results96]
set_option maxHeartbeats 1600000 in
theorem rchoose_a (f : Font) (name : ByteArray) (need p : Int) (hf : f.Fit) : AC Tryz.prog 78 [.agg f.vs, .c (.str name), .c (.int .i64 need), .c (.int .i64 p)] (choiceEV (chooseR f name need p)) := by
 by_cases hc : checkR f p = 0
 · have hk := hc
   unfold checkR at hk
   have hv : f.valid = true := by cases h : f.valid <;> simp [h] at hk; rfl
   have hpp : 1 ≤ p ∧ p ≤ 100 := by
    rw [if_neg (by simp [hv])] at hk
    split at hk <;> omega
   have hR : chooseR f name need p = (chooseI f name need p, 0) := by unfold chooseR; rw [if_neg (by simp [hc])]
   cases hst : f.stretch name with
   | none =>
     have hR2 : chooseI f name need p = ⟨name, 0⟩ := by unfold chooseI; rw [hst]
     rw [hR2] at hR
     refine en Tryz.func78 Tryz.ntmps78 ?_
     refine go0 ?_
     refine gc (cj @hc <| @errV.eq_1) (rcheck_a f p hf) Tryz.func94 ?_
     refine go0 ?_
     refine gc (cj @foundS.eq_1 <| cj @stretchV.eq_1 <| cj @Stretch.row.eq_1 <| cj @hst <| @Stretch.zero.eq_1) (rstretch_a f name hf.sl) Tryz.func95 ?_
     refine go0 ?_
     simp [aRet, ares, aresL, ares1, V.pub, V.pubs, ldV, Tryz.results78, hR, choiceEV, choiceV, errV]
   | some s =>
     have hs := (stretchO_mem hst).1
     have hG := good_of hv hs
     obtain ⟨g1, g2, g3, g4, g5, g6⟩ := hG
     have hR2 : chooseI f name need p = chooseS f s need p := by unfold chooseI; rw [hst]
     rw [hR2] at hR
     clear hR2 hk
     refine en Tryz.func78 Tryz.ntmps78 ?_
     refine go0 ?_
     refine gc (cj @hc <| @errV.eq_1) (rcheck_a f p hf) Tryz.func94 ?_
     refine go0 ?_
     refine gc (cj @foundS.eq_1 <| cj @stretchV.eq_1 <| cj @Stretch.row.eq_1 <| @hst) (rstretch_a f name hf.sl) Tryz.func95 ?_
     refine go0 ?_
     refine lp (ι := { k : Nat // k ≤ s.sizes.length ∧ firstSize f p need s.sizes = firstSize f p need (s.sizes.drop k) }) (fun k => [(13, .c (.int .i64 (k.1 : Int))), (9, .c (.int .i64 0))]) (fun _ => [.box 27 f.vs false, .box 100 [.c (.str ⟨#[]⟩), .c (.int .i64 0)] false, .box 61 (s.row.map V.c) false]) (fun k => s.sizes.length - k.1) ⟨0, by simp⟩ ?_ ?_
     all_goals simp only [puts, List.foldl_cons, List.foldl_nil, List.set_cons_zero, List.set_cons_succ]
     · refine Le.weak (by simp [subT, Stretch.row])
     · rintro ⟨k, hkl, hI⟩
       by_cases hlt : k < s.sizes.length
       · obtain ⟨n, hn⟩ : ∃ n, s.sizes[k] = n := ⟨_, rfl⟩
         rw [List.drop_eq_getElem_cons hlt, hn] at hI
         simp only [firstSize] at hI
         by_cases he : need ≤ sizeH f n p
         · rw [if_pos he] at hI
           have hR3 : chooseR f name need p = (⟨n, 0⟩, 0) := by rw [hR]; unfold chooseS; rw [hI]
           refine go (cj @hlt <| cj @hn <| cj @Stretch.row.eq_1 <| @sizesC.eq_1) ?_
           refine gc @he (rtall_0 f name n p hf hv hpp.1 hpp.2) Tryz.func96 ?_
           refine go (cj @hlt <| cj @hn <| cj @he <| cj @Stretch.row.eq_1 <| @sizesC.eq_1) ?_
           simp [aRet, ares, aresL, ares1, V.pub, V.pubs, ldV, Tryz.results78, hR3, choiceEV, choiceV, errV]
         · rw [if_neg he] at hI
           have hw : IntKind.i64.wrap ((k : Int) + 1) = ((k + 1 : Nat) : Int) := by rw [wrap_i64 (by omega) (by omega)]; simp
           refine go (cj @hlt <| cj @hn <| cj @Stretch.row.eq_1 <| @sizesC.eq_1) ?_
           refine gc @he (rtall_0 f name n p hf hv hpp.1 hpp.2) Tryz.func96 ?_
           refine go (cj @hlt <| cj @hn <| cj @he <| cj @Stretch.row.eq_1 <| cj @sizesC.eq_1 <| @hw) ?_
           refine ⟨⟨k + 1, by omega, hI⟩, by simp only; omega, ?_⟩
           refine Le.weak (by simp [subT, Stretch.row, sizesC])
       · have e : firstSize f p need s.sizes = none := by rw [hI, List.drop_of_length_le (by omega)]; rfl
         have hR3 : chooseS f s need p = if s.parts = [] then ⟨s.sizes.getD (s.sizes.length - 1) ⟨#[]⟩, 0⟩ else ⟨⟨#[]⟩, srch f s p need 999⟩ := by unfold chooseS; rw [e]
         by_cases hpn : s.parts = []
         · rw [if_pos hpn] at hR3
           obtain ⟨m, hm⟩ : ∃ m, s.sizes.length = m + 1 := ⟨s.sizes.length - 1, by omega⟩
           have hmlt : m < s.sizes.length := by omega
           obtain ⟨n, hn⟩ : ∃ n, s.sizes[m] = n := ⟨_, rfl⟩
           have hw : IntKind.i64.wrap ((s.sizes.length : Int) - 1) = (m : Int) := by rw [wrap_i64 (by omega) (by omega)]; omega
           have hg : s.sizes.getD (s.sizes.length - 1) ⟨#[]⟩ = n := by rw [hm]; simp [List.getD, hmlt, hn]
           rw [hg] at hR3
           rw [hR3] at hR
           refine go (cj @hlt <| cj @hpn <| cj @Stretch.row.eq_1 <| cj @sizesC.eq_1 <| cj @partsC.eq_1 <| cj @hw <| cj @hmlt <| @hn) ?_
           simp [aRet, ares, aresL, ares1, V.pub, V.pubs, ldV, Tryz.results78, hR, choiceEV, choiceV, errV]
         · rw [if_neg hpn] at hR3
           have hpl : ¬ s.parts.length = 0 := by simpa using hpn
           rw [hR3] at hR
           refine go (cj @hlt <| cj @hpn <| cj @hpl <| cj @Stretch.row.eq_1 <| cj @sizesC.eq_1 <| @partsC.eq_1) ?_
           refine lp (ι := { r : Int // 1 ≤ r ∧ r ≤ 1000 ∧ srch f s p need 999 = srch f s p need (1000 - r).toNat }) (fun r => [(14, .c (.int .i64 r.1))]) (fun _ => [.box 27 f.vs false, .box 100 [.c (.str ⟨#[]⟩), .c (.int .i64 0)] false, .box 61 (s.row.map V.c) false]) (fun r => (1000 - r.1).toNat) ⟨1, by simp⟩ ?_ ?_
           all_goals simp only [puts, List.foldl_cons, List.foldl_nil, List.set_cons_zero, List.set_cons_succ]
           · refine Le.weak (by simp [subT, Stretch.row])
           · rintro ⟨r, r1, r2, hS⟩
             by_cases hr : r < 1000
             · rw [srch_step f s p need r r1 hr] at hS
               obtain ⟨b1, b2⟩ := tallI_bound hv hs r1 r2
               by_cases hn : need ≤ scale (tallI f s r) p
               · rw [if_pos hn] at hS
                 rw [hS] at hR
                 have hn' : ¬ scale (tallI f s r) p < need := by omega
                 refine go (cj @hr <| @Stretch.row.eq_1) ?_
                 refine gc (cj @stretchV.eq_1 <| cj @Stretch.row.eq_1 <| @hr) (rTall_a f s r hf hv hs r1 r2 hpn) Tryz.func98 ?_
                 refine gc (cj @hn' <| @hn) (rscale_l (n := tallI f s r) (p := p) (by omega) (by omega) (by omega) (by omega)) Tryz.func97 ?_
                 refine go (cj @hn <| @hn') ?_
                 simp [aRet, ares, aresL, ares1, V.pub, V.pubs, ldV, Tryz.results78, hR, choiceEV, choiceV, errV]
               · rw [if_neg hn] at hS
                 have hn' : scale (tallI f s r) p < need := by omega
                 have hw : IntKind.i64.wrap (r + 1) = r + 1 := wrap_i64 (by omega) (by omega)
                 refine go (cj @hr <| @Stretch.row.eq_1) ?_
                 refine gc (cj @stretchV.eq_1 <| cj @Stretch.row.eq_1 <| @hr) (rTall_a f s r hf hv hs r1 r2 hpn) Tryz.func98 ?_
                 refine gc (cj @hn' <| @hn) (rscale_l (n := tallI f s r) (p := p) (by omega) (by omega) (by omega) (by omega)) Tryz.func97 ?_
                 refine go (cj @hn <| cj @hn' <| @hw) ?_
                 refine ⟨⟨r + 1, by omega, by omega, hS⟩, by simp only; omega, ?_⟩
                 refine Le.weak (by simp [subT, Stretch.row])
             · have e1 : r = 1000 := by omega
               subst e1
               have e2 : srch f s p need (1000 - 1000 : Int).toNat = 1000 := rfl
               rw [e2] at hS
               rw [hS] at hR
               refine go @Stretch.row.eq_1 ?_
               simp [aRet, ares, aresL, ares1, V.pub, V.pubs, ldV, Tryz.results78, hR, choiceEV, choiceV, errV]
 · have hR : chooseR f name need p = (⟨⟨#[]⟩, 0⟩, checkR f p) := by unfold chooseR; rw [if_pos (by simp [hc])]
   refine en Tryz.func78 Tryz.ntmps78 ?_
   refine go0 ?_
   refine gc @errV.eq_1 (rcheck_a f p hf) Tryz.func94 ?_
   refine go @hc ?_
   simp [aRet, ares, aresL, ares1, V.pub, V.pubs, ldV, Tryz.results78, hR, choiceEV, choiceV, errV]
end Go.Proofs.YthbcljjpmdfflaaGreat
namespace Go.Proofs.YthbcljjpmdfflaaGreat
open Go.RowKit
set_option linter.unusedSimpArgs false
set_option linter.unusedVariables false
set_option maxRecDepth 100000
set_option maxHeartbeats 3200000 in
theorem rasm_a (f : Font) (s : Stretch) (r p : Int) (hf : f.Fit) (hv : f.valid = true) (hs : s ∈ f.stretches) (hr1 : 1 ≤ r) (hr2 : r ≤ 1000) (hp1 : 1 ≤ p) (hp2 : p ≤ 100) (hp : s.parts ≠ []) : AC Tryz.prog 101 [.agg f.vs, stretchV s, .c (.int .i64 r), .c (.int .i64 p)] (boxV (asmBox f s r p)) := by
 obtain ⟨_, _, g3, g4, g5, g6⟩ := good_of hv hs
 have hfound := parts_found hv hs
 have hok := valid_glyphs hv
 have hpl : 0 < s.parts.length := List.length_pos_iff.2 hp
 obtain ⟨tb1, tb2⟩ := tallI_bound hv hs hr1 hr2
 have htot := pieces_len hr1 hr2 s.parts
 have hR : boxV (asmBox f s r p) = .agg [.c (.int .i64 3), .c (.str ⟨#[]⟩), .c (.int .i64 0), .c (.int .i64 (maxW 0 (asmKids f s.overlap p 0 (piecesL r s.parts)))), .c (.int .i64 (scale (tallI f s r) p)), .c (.int .i64 0), .c (.int .i64 0), .c (.int .i64 0), .c (.sl (Box.rows (asmKids f s.overlap p 0 (piecesL r s.parts)))), .c (.int .i64 0), .c (.sl [])] := by simp [boxV, asmBox, Box.row, intsC]
 rw [hR]
 clear hR
 obtain ⟨ALL, hALL⟩ : ∃ l, asmKids f s.overlap p 0 (piecesL r s.parts) = l := ⟨_, rfl⟩
 rw [hALL]
 have hTA := rTall_a f s r hf hv hs hr1 hr2 hp
 obtain ⟨T, hT⟩ : ∃ T, tallI f s r = T := ⟨_, rfl⟩
 rw [hT] at hTA tb1 tb2 ⊢
 unfold stretchV at hTA ⊢
 refine AC.intro Tryz.func101 rfl ?_
 simp only [Tryz.ntmps101, List.map_cons, List.map_nil, List.length_cons, List.length_nil, Nat.reduceAdd, Nat.reduceSub, List.replicate_succ, List.replicate_zero, List.cons_append, List.nil_append, Stretch.row]
 refine go0 ?_
 refine gc @Stretch.row.eq_1 (hTA) Tryz.func98 ?_
 refine gc0 (rscale_l (n := T) (p := p) (by omega) (by omega) (by omega) (by omega)) Tryz.func97 ?_
 refine go0 ?_
 refine AW.le (Le.tokCell 3 8 33 11 rfl rfl) ?_
 simp only [List.length_cons, List.length_nil, Nat.reduceAdd, List.set_cons_zero, List.set_cons_succ, List.cons_append, List.nil_append]
 refine lp (ι := { q : Nat × Int × List Box // q.1 ≤ s.parts.length ∧ ALL = q.2.2 ++ asmKids f s.overlap p q.2.1 (piecesL r (s.parts.drop q.1)) ∧ 0 ≤ q.2.1 ∧ q.2.1 ≤ 40000 * (q.2.2.length : Int) ∧ q.2.2.length + (piecesL r (s.parts.drop q.1)).length ≤ 8000 }) (fun q => [(11, .c (.int .i64 (q.1.1 : Int))), (10, .c (.int .i64 q.1.2.1))]) (fun q => [.box 27 f.vs false, .box 61 (s.row.map V.c) false, .box 33 zboxC false, .box 33 (lstC (maxW 0 q.1.2.2) (scale T p) (.gr 4 11 (Box.rows q.1.2.2))) false, .tok 33 11 q.1.2.2.length]) (fun q => s.parts.length - q.1.1) ⟨(0, 0, []), by simp [hALL]; omega⟩ ?_ ?_
 all_goals simp only [puts, List.foldl_cons, List.foldl_nil, List.set_cons_zero, List.set_cons_succ]
 · refine Le.weak (by simp [subT, Stretch.row, zboxC, lstC, maxW, Box.rows])
 · rintro ⟨⟨k, b, kids⟩, hk, hI, b1, b2, b3⟩
   simp only at hk hI b1 b2 b3 ⊢
   by_cases hlt : k < s.parts.length
   · obtain ⟨q, hq⟩ : ∃ q, s.parts[k] = q := ⟨_, rfl⟩
     have hmem : q ∈ s.parts := hq ▸ List.getElem_mem hlt
     have hg6 := g6 q hmem
     obtain ⟨g, hg⟩ := hfound q hmem
     obtain ⟨e1, e2, e3⟩ := height_small hok hg
     have hpk := pick_found hg
     rw [hpk] at hg6
     rw [List.drop_eq_getElem_cons hlt, hq] at hI b3
     simp only [piecesL, List.length_append, List.length_replicate] at hI b3
     obtain ⟨t1, t2⟩ := times_bound hr1 hr2 q
     have hw : IntKind.i64.wrap ((k : Int) + 1) = ((k + 1 : Nat) : Int) := by rw [wrap_i64 (by omega) (by omega)]; simp
     have hc := rsize_a f q.name p hf.gl
     have hB0 : ∃ B, (sizedR f q.name p).1 = B ∧ -200000 ≤ B.d ∧ B.d ≤ 200000 := by
      refine ⟨_, rfl, ?_⟩
      rw [(sizedR_eq hv hp1 hp2 q.name).1]
      have := scaled_b hv hp1 hp2 q.name
      simp only [glyphBox]
      omega
     obtain ⟨⟨bk, bn, bs, bw, bh, bd, bx, by_, bkids, bo, bsrc⟩, hB, bd1, bd2⟩ := hB0
     have hPB : ∀ z, pieceBox f p z q = ⟨bk, bn, bs, bw, bh, bd, bx, scale z p + bd, bkids, bo, bsrc⟩ := by intro z; simp only [pieceBox, hB]
     rw [hB] at hc
     simp only [boxV, Box.row, List.map_cons, List.map_nil] at hc bd1 bd2
     have wov : IntKind.i64.wrap (g.height - s.overlap) = g.height - s.overlap := wrap_i64 (by omega) (by omega)
     cases hx : q.ext with
     | true =>
       have ht : times r q = r := by simp [times, hx]
       rw [ht] at hI b3 t1 t2
       refine go (cj @hlt <| cj @hq <| cj @Stretch.row.eq_1 <| cj @partsC.eq_1 <| cj @Part.row.eq_1 <| @hx) ?_
       refine gc (cj @foundV.eq_1 <| cj @hg <| @Glyph.row.eq_1) (rfind_a f q.name hf.gl) Tryz.func75 ?_
       refine go0 ?_
       refine lp (ι := { x : Int × Int × List Box // 0 ≤ x.1 ∧ x.1 ≤ r ∧ ALL = x.2.2 ++ asmKids f s.overlap p x.2.1 (List.replicate (r - x.1).toNat q ++ piecesL r (s.parts.drop (k + 1))) ∧ 0 ≤ x.2.1 ∧ x.2.1 ≤ 40000 * (x.2.2.length : Int) ∧ x.2.2.length + ((r - x.1).toNat + (piecesL r (s.parts.drop (k + 1))).length) ≤ 8000 }) (fun x => [(15, .c (.int .i64 x.1.1)), (10, .c (.int .i64 x.1.2.1))]) (fun x => [.box 27 f.vs false, .box 61 (s.row.map V.c) false, .box 33 zboxC false, .box 33 (lstC (maxW 0 x.1.2.2) (scale T p) (.gr 4 11 (Box.rows x.1.2.2))) false, .tok 33 11 x.1.2.2.length, .box 57 (g.row.map V.c) false]) (fun x => (r - x.1.1).toNat) ⟨(0, b, kids), by simp only [Int.sub_zero]; exact ⟨by omega, by omega, hI, b1, b2, b3⟩⟩ ?_ ?_
       all_goals simp only [puts, List.foldl_cons, List.foldl_nil, List.set_cons_zero, List.set_cons_succ]
       · refine Le.weak (by simp [subT, Stretch.row, Glyph.row])
       · clear hI b1 b2 b3
         rintro ⟨⟨j, b, kids⟩, j1, j2, hI, b1, b2, b3⟩
         simp only at j1 j2 hI b1 b2 b3 ⊢
         by_cases hj : j < r
         · have hd : (r - j).toNat = (r - (j + 1)).toNat + 1 := by omega
           rw [hd] at hI b3
           simp only [List.replicate_succ, List.cons_append, asmKids, hPB, hpk] at hI
           have hsb := scale_lb (n := b) (p := p) (by omega) (by omega) (by omega) (by omega)
           have hwj : IntKind.i64.wrap (j + 1) = j + 1 := wrap_i64 (by omega) (by omega)
           have hwy : IntKind.i64.wrap (scale b p + bd) = scale b p + bd := wrap_i64 (by omega) (by omega)
           have hwb : IntKind.i64.wrap (b + (g.height - s.overlap)) = b + (g.height - s.overlap) := wrap_i64 (by omega) (by omega)
           have hl1 : kids.length + 1 ≤ maxLen := by unfold maxLen; omega
           have hl2 : (kids.length + 1) * 128 ≤ 140737488355328 := by omega
           have hrow : Box.rows (kids ++ [⟨bk, bn, bs, bw, bh, bd, bx, scale b p + bd, bkids, bo, bsrc⟩]) = Box.rows kids ++ [[.int .i64 bk, .str bn, .int .i64 bs, .int .i64 bw, .int .i64 bh, .int .i64 bd, .int .i64 bx, .int .i64 (scale b p + bd), .sl (Box.rows bkids), .int .i64 bo, intsC bsrc]] := by rw [rows_snoc]; rfl
           have hmw : maxW 0 (kids ++ [⟨bk, bn, bs, bw, bh, bd, bx, scale b p + bd, bkids, bo, bsrc⟩]) = if maxW 0 kids < bw then bw else maxW 0 kids := by rw [maxW_snoc]; rfl
           refine go (cj @hj <| cj @hlt <| cj @hq <| cj @Stretch.row.eq_1 <| cj @partsC.eq_1 <| @Part.row.eq_1) ?_
           refine gc0 (hc) Tryz.func100 ?_
           refine go0 ?_
           refine gc @hwy (rscale_l (n := b) (p := p) (by omega) (by omega) (by omega) (by omega)) Tryz.func97 ?_
           refine go (cj @lstC.eq_1 <| cj @hl1 <| cj @hl2 <| @Glyph.row.eq_1) ?_
           refine gc (cj @e3 <| cj @glyphV.eq_1 <| cj @Glyph.row.eq_1 <| cj @wov <| cj @hwb <| @Stretch.row.eq_1) (rheight_a g) Tryz.func76 ?_
           refine go @hwj ?_
           refine ⟨⟨(j + 1, b + (g.height - s.overlap), kids ++ [⟨bk, bn, bs, bw, bh, bd, bx, scale b p + bd, bkids, bo, bsrc⟩]), by simp only; omega, by simp only; omega, by simpa using hI, by simp only; omega, by simp; omega, by simp; omega⟩, by simp only; omega, ?_⟩
           refine Le.wdrop 6 (Nat.le_of_ble_eq_true rfl) (by simp [subT, Stretch.row, partsC, Glyph.row, lstC, hrow, hmw, zboxC]) (by simp [Stretch.row, partsC, Glyph.row, lstC, hrow, hmw, zboxC]) (by simp [V.bnds, V.bnd]) (by simp [O.bnd, V.bnds, V.bnd, Stretch.row, partsC, Glyph.row, lstC, hrow, hmw, zboxC])
         · have hd : (r - j).toNat = 0 := by omega
           rw [hd] at hI b3
           simp only [List.replicate_zero, List.nil_append, Nat.zero_add] at hI b3
           refine go (cj @hj <| @hw) ?_
           refine ⟨⟨(k + 1, b, kids), by omega, hI, b1, b2, b3⟩, by simp only; omega, ?_⟩
           refine Le.wdrop 5 (Nat.le_of_ble_eq_true rfl) (by simp [subT, Stretch.row, partsC, lstC, zboxC]) (by simp [Stretch.row, partsC, lstC, zboxC]) (by simp [V.bnds, V.bnd]) (by simp [O.bnd, V.bnds, V.bnd, Stretch.row, partsC, lstC, zboxC])
     | false =>
       have ht : times r q = 1 := by simp [times, hx]
       rw [ht] at hI b3 t1 t2
       refine go (cj @hlt <| cj @hq <| cj @Stretch.row.eq_1 <| cj @partsC.eq_1 <| cj @Part.row.eq_1 <| @hx) ?_
       refine gc (cj @foundV.eq_1 <| cj @hg <| @Glyph.row.eq_1) (rfind_a f q.name hf.gl) Tryz.func75 ?_
       refine go0 ?_
       refine lp (ι := { x : Int × Int × List Box // 0 ≤ x.1 ∧ x.1 ≤ 1 ∧ ALL = x.2.2 ++ asmKids f s.overlap p x.2.1 (List.replicate (1 - x.1).toNat q ++ piecesL r (s.parts.drop (k + 1))) ∧ 0 ≤ x.2.1 ∧ x.2.1 ≤ 40000 * (x.2.2.length : Int) ∧ x.2.2.length + ((1 - x.1).toNat + (piecesL r (s.parts.drop (k + 1))).length) ≤ 8000 }) (fun x => [(15, .c (.int .i64 x.1.1)), (10, .c (.int .i64 x.1.2.1))]) (fun x => [.box 27 f.vs false, .box 61 (s.row.map V.c) false, .box 33 zboxC false, .box 33 (lstC (maxW 0 x.1.2.2) (scale T p) (.gr 4 11 (Box.rows x.1.2.2))) false, .tok 33 11 x.1.2.2.length, .box 57 (g.row.map V.c) false]) (fun x => (1 - x.1.1).toNat) ⟨(0, b, kids), by simp only [Int.sub_zero]; exact ⟨by omega, by omega, hI, b1, b2, b3⟩⟩ ?_ ?_
       all_goals simp only [puts, List.foldl_cons, List.foldl_nil, List.set_cons_zero, List.set_cons_succ]
       · refine Le.weak (by simp [subT, Stretch.row, Glyph.row])
       · clear hI b1 b2 b3
         rintro ⟨⟨j, b, kids⟩, j1, j2, hI, b1, b2, b3⟩
         simp only at j1 j2 hI b1 b2 b3 ⊢
         by_cases hj : j < 1
         · have hd : (1 - j).toNat = (1 - (j + 1)).toNat + 1 := by omega
           rw [hd] at hI b3
           simp only [List.replicate_succ, List.cons_append, asmKids, hPB, hpk] at hI
           have hsb := scale_lb (n := b) (p := p) (by omega) (by omega) (by omega) (by omega)
           have hwj : IntKind.i64.wrap (j + 1) = j + 1 := wrap_i64 (by omega) (by omega)
           have hwy : IntKind.i64.wrap (scale b p + bd) = scale b p + bd := wrap_i64 (by omega) (by omega)
           have hwb : IntKind.i64.wrap (b + (g.height - s.overlap)) = b + (g.height - s.overlap) := wrap_i64 (by omega) (by omega)
           have hl1 : kids.length + 1 ≤ maxLen := by unfold maxLen; omega
           have hl2 : (kids.length + 1) * 128 ≤ 140737488355328 := by omega
           have hrow : Box.rows (kids ++ [⟨bk, bn, bs, bw, bh, bd, bx, scale b p + bd, bkids, bo, bsrc⟩]) = Box.rows kids ++ [[.int .i64 bk, .str bn, .int .i64 bs, .int .i64 bw, .int .i64 bh, .int .i64 bd, .int .i64 bx, .int .i64 (scale b p + bd), .sl (Box.rows bkids), .int .i64 bo, intsC bsrc]] := by rw [rows_snoc]; rfl
           have hmw : maxW 0 (kids ++ [⟨bk, bn, bs, bw, bh, bd, bx, scale b p + bd, bkids, bo, bsrc⟩]) = if maxW 0 kids < bw then bw else maxW 0 kids := by rw [maxW_snoc]; rfl
           refine go (cj @hj <| cj @hlt <| cj @hq <| cj @Stretch.row.eq_1 <| cj @partsC.eq_1 <| @Part.row.eq_1) ?_
           refine gc0 (hc) Tryz.func100 ?_
           refine go0 ?_
           refine gc @hwy (rscale_l (n := b) (p := p) (by omega) (by omega) (by omega) (by omega)) Tryz.func97 ?_
           refine go (cj @lstC.eq_1 <| cj @hl1 <| cj @hl2 <| @Glyph.row.eq_1) ?_
           refine gc (cj @e3 <| cj @glyphV.eq_1 <| cj @Glyph.row.eq_1 <| cj @wov <| cj @hwb <| @Stretch.row.eq_1) (rheight_a g) Tryz.func76 ?_
           refine go @hwj ?_
           refine ⟨⟨(j + 1, b + (g.height - s.overlap), kids ++ [⟨bk, bn, bs, bw, bh, bd, bx, scale b p + bd, bkids, bo, bsrc⟩]), by simp only; omega, by simp only; omega, by simpa using hI, by simp only; omega, by simp; omega, by simp; omega⟩, by simp only; omega, ?_⟩
           refine Le.wdrop 6 (Nat.le_of_ble_eq_true rfl) (by simp [subT, Stretch.row, partsC, Glyph.row, lstC, hrow, hmw, zboxC]) (by simp [Stretch.row, partsC, Glyph.row, lstC, hrow, hmw, zboxC]) (by simp [V.bnds, V.bnd]) (by simp [O.bnd, V.bnds, V.bnd, Stretch.row, partsC, Glyph.row, lstC, hrow, hmw, zboxC])
         · have hd : (1 - j).toNat = 0 := by omega
           rw [hd] at hI b3
           simp only [List.replicate_zero, List.nil_append, Nat.zero_add] at hI b3
           refine go (cj @hj <| @hw) ?_
           refine ⟨⟨(k + 1, b, kids), by omega, hI, b1, b2, b3⟩, by simp only; omega, ?_⟩
           refine Le.wdrop 5 (Nat.le_of_ble_eq_true rfl) (by simp [subT, Stretch.row, partsC, lstC, zboxC]) (by simp [Stretch.row, partsC, lstC, zboxC]) (by simp [V.bnds, V.bnd]) (by simp [O.bnd, V.bnds, V.bnd, Stretch.row, partsC, lstC, zboxC])
   · have e : ALL = kids := by rw [hI, List.drop_of_length_le (by omega)]; simp [piecesL, asmKids]
     subst e
     refine go (cj @hlt <| cj @Stretch.row.eq_1 <| cj @partsC.eq_1 <| cj @lstC.eq_1 <| @zboxC.eq_1) ?_
     simp [aRet, ares, aresL, ares1, V.pub, V.pubs, ldV, Tryz.results101, lstC]
end Go.Proofs.YthbcljjpmdfflaaGreat
namespace Go.Proofs.YthbcljjpmdfflaaGreat
open Go.RowKit
set_option linter.unusedSimpArgs false
set_option linter.unusedVariables false
set_option maxRecDepth 100000
theorem rbox_a (f : Font) (name : ByteArray) (c : Choice) (p : Int) (hf : f.Fit) (hz : ∀ s ∈ f.stretches, s.sizes.length ≤ 1000) : AC Tryz.prog 79 [.agg f.vs, .c (.str name), choiceV c, .c (.int .i64 p)] (boxEV (boxR f name c p)) := by
 obtain ⟨cg, cr⟩ := c
 by_cases hc : checkR f p = 0
 · obtain ⟨hv, hp1, hp2⟩ := check_zero hc
   cases hi : isR f name ⟨cg, cr⟩ with
   | false =>
     have hR : boxR f name ⟨cg, cr⟩ p = (Box.zero, 8) := by unfold boxR; rw [if_neg (by simp [hc]), if_pos hi]
     rw [hR]
     unfold choiceV
     refine en Tryz.func79 Tryz.ntmps79 ?_
     refine go0 ?_
     refine gc (cj @hc <| @errV.eq_1) (rcheck_a f p hf) Tryz.func94 ?_
     refine go0 ?_
     refine gc (cj @hi <| @choiceV.eq_1) (ris_a f name ⟨cg, cr⟩ hf.sl hz) Tryz.func99 ?_
     refine go0 ?_
     simp [aRet, ares, aresL, ares1, V.pub, V.pubs, ldV, Tryz.results79, errV, boxEV, boxV, Box.zero, Box.row, Box.rows, intsC]
   | true =>
     by_cases h0 : cr = 0
     · subst h0
       have hR : boxR f name ⟨cg, 0⟩ p = ((sizedR f cg p).1, 0) := by unfold boxR; rw [if_neg (by simp [hc]), if_neg (by simp [hi]), if_pos rfl]
       rw [hR]
       have hcl := rsize_a f cg p hf.gl
       obtain ⟨b, hq⟩ : ∃ b, (sizedR f cg p).1 = b := ⟨_, rfl⟩
       rw [hq] at hcl ⊢
       obtain ⟨k, n, s, w, h, d, x, y, kids, o, src⟩ := b
       simp only [boxEV, errV, boxV, Box.row, List.map_cons, List.map_nil] at hcl ⊢
       unfold choiceV
       refine en Tryz.func79 Tryz.ntmps79 ?_
       refine go0 ?_
       refine gc (cj @hc <| @errV.eq_1) (rcheck_a f p hf) Tryz.func94 ?_
       refine go0 ?_
       refine gc (cj @hi <| @choiceV.eq_1) (ris_a f name ⟨cg, 0⟩ hf.sl hz) Tryz.func99 ?_
       refine go0 ?_
       refine gc0 (hcl) Tryz.func100 ?_
       refine go0 ?_
       simp [aRet, ares, aresL, ares1, V.pub, V.pubs, ldV, Tryz.results79]
     · obtain ⟨s, hst, hpn, r1, r2, _⟩ := isR_rep h0 hi
       have hs := (stretchO_mem hst).1
       have hR : boxR f name ⟨cg, cr⟩ p = (asmBox f s cr p, 0) := by unfold boxR; rw [if_neg (by simp [hc]), if_neg (by simp [hi]), if_neg h0, hst]; rfl
       rw [hR]
       have hcl := rasm_a f s cr p hf hv hs r1 r2 hp1 hp2 hpn
       obtain ⟨b, hq⟩ : ∃ b, asmBox f s cr p = b := ⟨_, rfl⟩
       rw [hq] at hcl ⊢
       obtain ⟨bk, bn, bs, bw, bh, bd, bx, by_, kids, bo, src⟩ := b
       simp only [boxEV, errV, boxV, Box.row, List.map_cons, List.map_nil] at hcl ⊢
       unfold choiceV
       refine en Tryz.func79 Tryz.ntmps79 ?_
       refine go0 ?_
       refine gc (cj @hc <| @errV.eq_1) (rcheck_a f p hf) Tryz.func94 ?_
       refine go0 ?_
       refine gc (cj @hi <| @choiceV.eq_1) (ris_a f name ⟨cg, cr⟩ hf.sl hz) Tryz.func99 ?_
       refine go @h0 ?_
       refine gc (cj @foundS.eq_1 <| cj @stretchV.eq_1 <| cj @Stretch.row.eq_1 <| @hst) (rstretch_a f name hf.sl) Tryz.func95 ?_
       refine go0 ?_
       refine gc (cj @stretchV.eq_1 <| @Stretch.row.eq_1) (hcl) Tryz.func101 ?_
       refine go0 ?_
       simp [aRet, ares, aresL, ares1, V.pub, V.pubs, ldV, Tryz.results79]
 · have hR : boxR f name ⟨cg, cr⟩ p = (Box.zero, checkR f p) := by unfold boxR; rw [if_pos (by simp [hc])]
   rw [hR]
   unfold choiceV
   refine en Tryz.func79 Tryz.ntmps79 ?_
   refine go0 ?_
   refine gc @errV.eq_1 (rcheck_a f p hf) Tryz.func94 ?_
   refine go @hc ?_
   simp [aRet, ares, aresL, ares1, V.pub, V.pubs, ldV, Tryz.results79, errV, boxEV, boxV, Box.zero, Box.row, Box.rows, intsC]
theorem rfind_v (f : Font) (name : ByteArray) (need p : Int) (hf : f.Fit) (hz : ∀ s ∈ f.stretches, s.sizes.length ≤ 1000) : AC Tryz.prog 56 [.agg f.vs, .c (.str name), .c (.int .i64 need), .c (.int .i64 p)] (boxEV (findR f name need p)) := by
 have hch := rchoose_a f name need p hf
 by_cases hc : checkR f p = 0
 · have hR : findR f name need p = boxR f name (chooseI f name need p) p := by unfold findR; rw [if_neg (by simp [hc])]
   have hR2 : chooseR f name need p = (chooseI f name need p, 0) := by unfold chooseR; rw [if_neg (by simp [hc])]
   rw [hR]
   rw [hR2] at hch
   obtain ⟨c, hcc⟩ : ∃ c, chooseI f name need p = c := ⟨_, rfl⟩
   rw [hcc] at hch ⊢
   obtain ⟨cg, cr⟩ := c
   simp only [choiceEV, choiceV, errV] at hch
   have hcl := rbox_a f name ⟨cg, cr⟩ p hf hz
   obtain ⟨q, hq⟩ : ∃ q, boxR f name ⟨cg, cr⟩ p = q := ⟨_, rfl⟩
   rw [hq] at hcl ⊢
   obtain ⟨⟨bk, bn, bs, bw, bh, bd, bx, by_, kids, bo, src⟩, e⟩ := q
   simp only [choiceV, boxEV, errV, boxV, Box.row, List.map_cons, List.map_nil] at hcl ⊢
   refine en Tryz.func56 Tryz.ntmps56 ?_
   refine go0 ?_
   refine gc0 (hch) Tryz.func78 ?_
   refine go0 ?_
   refine gc0 (hcl) Tryz.func79 ?_
   refine go0 ?_
   simp [aRet, ares, aresL, ares1, V.pub, V.pubs, ldV, Tryz.results56]
 · have hR : findR f name need p = (Box.zero, checkR f p) := by unfold findR; rw [if_pos (by simp [hc])]
   have hR2 : chooseR f name need p = (⟨⟨#[]⟩, 0⟩, checkR f p) := by unfold chooseR; rw [if_pos (by simp [hc])]
   rw [hR]
   rw [hR2] at hch
   simp only [choiceEV, choiceV, errV] at hch
   refine en Tryz.func56 Tryz.ntmps56 ?_
   refine go0 ?_
   refine gc0 (hch) Tryz.func78 ?_
   refine go @hc ?_
   simp [aRet, ares, aresL, ares1, V.pub, V.pubs, ldV, Tryz.results56, errV, boxEV, boxV, Box.zero, Box.row, Box.rows, intsC]
end Go.Proofs.YthbcljjpmdfflaaGreat
