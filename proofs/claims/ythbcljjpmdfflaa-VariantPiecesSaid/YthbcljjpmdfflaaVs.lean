/-
  Plain Lean: what layer 6 computes; what a valid font grants.
-/
import Derived.Test.YthbcljjpmdfflaaFk
namespace Go.Proofs.Ythbcljjpmdfflaa

def checkR (f : Font) (p : Int) : Int := if f.valid = false then 1 else if p < 1 ∨ 100 < p then 2 else 0
def times (r : Int) (q : Part) : Int := if q.ext = true then r else 1
def tallF (f : Font) (r : Int) : Int → Int → List Part → Int × Int
  | h, c, [] => (h, c)
  | h, c, q :: l => tallF f r (h + times r q * (f.pick q.name).height) (c + times r q) l
def tallI (f : Font) (s : Stretch) (r : Int) : Int := (tallF f r 0 0 s.parts).1 - ((tallF f r 0 0 s.parts).2 - 1) * s.overlap
def sizeH (f : Font) (name : ByteArray) (p : Int) : Int := (scaledR (f.pick name) p).1.h + (scaledR (f.pick name) p).1.d

structure Choice where
  glyph : ByteArray
  rep : Int

theorem small_of_ok {g : Glyph} (h : glyphOk g = true) : g.Small := by
  simp [glyphOk, inB] at h
  unfold Glyph.Small
  omega
theorem small_zero (name : ByteArray) : ({ Glyph.zero with name := name } : Glyph).Small := by simp [Glyph.Small, Glyph.zero]
theorem glyphsOk_all : ∀ (l seen : List Glyph), glyphsOk seen l = true → ∀ g ∈ l, glyphOk g = true
  | [], _, _, g, hg => by cases hg
  | x :: r, seen, h, g, hg => by
    simp only [glyphsOk, Bool.and_eq_true] at h
    rcases List.mem_cons.1 hg with rfl | hg
    · exact h.1.1
    · exact glyphsOk_all r _ h.2 g hg
theorem stretchesOk_all (ht : ByteArray → Option Int) : ∀ (l seen : List Stretch), stretchesOk ht seen l = true → ∀ s ∈ l, stretchOk ht s = true
  | [], _, _, g, hg => by cases hg
  | x :: r, seen, h, g, hg => by
    simp only [stretchesOk, Bool.and_eq_true] at h
    rcases List.mem_cons.1 hg with rfl | hg
    · exact h.1.1
    · exact stretchesOk_all ht r _ h.2 g hg
theorem valid_glyphs {f : Font} (h : f.valid = true) : ∀ g ∈ f.glyphs, glyphOk g = true := by
  simp only [Font.valid, Bool.and_eq_true] at h
  exact glyphsOk_all _ _ h.2.1
theorem pick_small {f : Font} (h : f.valid = true) (name : ByteArray) : (f.pick name).Small := by
  unfold Font.pick
  cases h1 : f.find name with
  | some g => exact small_of_ok (valid_glyphs h g (findO_mem h1))
  | none =>
    cases h2 : f.find ⟨#[63]⟩ with
    | some g => exact small_of_ok (valid_glyphs h g (findO_mem h2))
    | none => exact small_zero name
theorem valid_stretches {f : Font} (h : f.valid = true) : ∀ s ∈ f.stretches, stretchOk f.ht s = true := by
  simp only [Font.valid, Bool.and_eq_true] at h
  exact stretchesOk_all _ _ _ h.2.2
theorem stretchO_mem {name : ByteArray} {s : Stretch} : ∀ {l : List Stretch}, stretchO name l = some s → s ∈ l ∧ s.name = name
  | [], h => by simp [stretchO] at h
  | x :: r, h => by
    simp only [stretchO] at h
    split at h
    · simp only [Option.some.injEq] at h; subst h; exact ⟨by simp, by assumption⟩
    · have := stretchO_mem h; exact ⟨List.mem_cons_of_mem _ this.1, this.2⟩
theorem partsFold_le (ht : ByteArray → Option Int) : ∀ (l : List Part) (a : Int) (e : Bool) (b : Int) (e' : Bool), partsFold ht a e l = some (b, e') → b ≤ a ∧ ∀ q ∈ l, ∃ h, ht q.name = some h ∧ b ≤ h
  | [], a, e, b, e', h => by simp [partsFold] at h; exact ⟨by omega, by simp⟩
  | q :: r, a, e, b, e', h => by
    simp only [partsFold] at h
    cases hq : ht q.name with
    | none => rw [hq] at h; cases h
    | some y =>
      rw [hq] at h
      obtain ⟨h1, h2⟩ := partsFold_le ht r _ _ b e' h
      have hb : b ≤ a ∧ b ≤ y := by split at h1 <;> omega
      refine ⟨hb.1, fun x hx => ?_⟩
      rcases List.mem_cons.1 hx with rfl | hx
      · exact ⟨y, hq, hb.2⟩
      · exact h2 x hx
/-- what a valid font grants of a stretch -/
structure GoodS (f : Font) (s : Stretch) : Prop where
  sizes1 : 1 ≤ s.sizes.length
  sizes2 : s.sizes.length ≤ 16
  parts : s.parts.length ≤ 8
  over1 : 0 ≤ s.overlap
  over2 : s.overlap ≤ 60000
  tall : ∀ q ∈ s.parts, s.overlap < (f.pick q.name).height
theorem ht_pick {f : Font} {name : ByteArray} {h : Int} (e : f.ht name = some h) : (f.pick name).height = h := by
  simp only [Font.ht, Option.map_eq_some_iff] at e
  obtain ⟨g, hg, rfl⟩ := e
  simp [Font.pick, hg]
theorem good_of {f : Font} (hv : f.valid = true) {s : Stretch} (hs : s ∈ f.stretches) : GoodS f s := by
  have h := valid_stretches hv s hs
  simp only [stretchOk, Bool.and_eq_true] at h
  obtain ⟨⟨_, h1, h2⟩, h3, h4⟩ := h
  simp [inB] at h1 h2
  by_cases hp : s.parts = []
  · rw [if_pos hp] at h4
    simp at h4
    exact ⟨by omega, by omega, h2, by omega, by omega, by simp [hp]⟩
  · rw [if_neg hp] at h4
    unfold partsOk at h4
    cases hf : partsFold f.ht 60000 false s.parts with
    | none => rw [hf] at h4; cases h4
    | some x =>
      obtain ⟨b, e⟩ := x
      rw [hf] at h4
      simp [inB] at h4
      obtain ⟨hb, hq⟩ := partsFold_le _ _ _ _ _ _ hf
      refine ⟨by omega, by omega, h2, by omega, by omega, fun q hm => ?_⟩
      obtain ⟨y, hy, hby⟩ := hq q hm
      rw [ht_pick hy]
      omega

def firstSize (f : Font) (p need : Int) : List ByteArray → Option ByteArray
  | [] => none
  | n :: r => if need ≤ sizeH f n p then some n else firstSize f p need r
/-- the search for a repetition, n steps ahead of 1000 -/
def srch (f : Font) (s : Stretch) (p need : Int) : Nat → Int
  | 0 => 1000
  | n + 1 => if need ≤ scale (tallI f s (1000 - ((n : Int) + 1))) p then 1000 - ((n : Int) + 1) else srch f s p need n
def chooseS (f : Font) (s : Stretch) (need p : Int) : Choice :=
  match firstSize f p need s.sizes with
  | some n => ⟨n, 0⟩
  | none => if s.parts = [] then ⟨s.sizes.getD (s.sizes.length - 1) ⟨#[]⟩, 0⟩ else ⟨⟨#[]⟩, srch f s p need 999⟩
def chooseI (f : Font) (name : ByteArray) (need p : Int) : Choice :=
  match f.stretch name with
  | none => ⟨name, 0⟩
  | some s => chooseS f s need p
def choiceV (c : Choice) : V := .agg [.c (.str c.glyph), .c (.int .i64 c.rep)]
/-- how often each part stands, from the bottom to the top -/
def piecesL (r : Int) : List Part → List Part
  | [] => []
  | q :: l => List.replicate (times r q).toNat q ++ piecesL r l
/-- the box of a piece, and what is above it -/
def pieceBox (f : Font) (p bottom : Int) (q : Part) : Box := { (sizedR f q.name p).1 with y := scale bottom p + (sizedR f q.name p).1.d }
def asmKids (f : Font) (ov p : Int) : Int → List Part → List Box
  | _, [] => []
  | b, q :: l => pieceBox f p b q :: asmKids f ov p (b + ((f.pick q.name).height - ov)) l
def maxW : Int → List Box → Int
  | m, [] => m
  | m, b :: l => maxW (mx m b.w) l
/-- the box of an assembly -/
def asmBox (f : Font) (s : Stretch) (r p : Int) : Box := ⟨3, ⟨#[]⟩, 0, maxW 0 (asmKids f s.overlap p 0 (piecesL r s.parts)), scale (tallI f s r) p, 0, 0, 0, asmKids f s.overlap p 0 (piecesL r s.parts), 0, []⟩
/-- whether there is such a choice -/
def hasS (x : ByteArray) : List ByteArray → Bool
  | [] => false
  | y :: r => if y = x then true else hasS x r
def isR (f : Font) (name : ByteArray) (c : Choice) : Bool :=
  match f.stretch name with
  | none => decide (c.rep = 0) && decide (c.glyph = name)
  | some s => if c.rep = 0 then hasS c.glyph s.sizes else decide (c.glyph = ⟨#[]⟩) && (decide (0 < s.parts.length) && (decide (1 ≤ c.rep) && decide (c.rep ≤ 1000)))
/-- Box -/
def boxR (f : Font) (name : ByteArray) (c : Choice) (p : Int) : Box × Int :=
  if checkR f p ≠ 0 then (Box.zero, checkR f p)
  else if isR f name c = false then (Box.zero, 8)
  else if c.rep = 0 then ((sizedR f c.glyph p).1, 0)
  else (asmBox f ((f.stretch name).getD Stretch.zero) c.rep p, 0)
def chooseR (f : Font) (name : ByteArray) (need p : Int) : Choice × Int :=
  if checkR f p ≠ 0 then (⟨⟨#[]⟩, 0⟩, checkR f p) else (chooseI f name need p, 0)
end Go.Proofs.Ythbcljjpmdfflaa
