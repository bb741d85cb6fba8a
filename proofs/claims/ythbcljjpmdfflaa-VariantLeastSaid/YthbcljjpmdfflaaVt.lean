/-
  Plain Lean for layer 6: bounds, lists of boxes, what Find computes.
-/
import Derived.Test.YthbcljjpmdfflaaVs
namespace Go.Proofs.Ythbcljjpmdfflaa
open Go.RowKit
set_option linter.unusedSimpArgs false
set_option linter.unusedVariables false
set_option maxRecDepth 100000

theorem pick_found {f : Font} {name : ByteArray} {g : Glyph} (h : f.find name = some g) : f.pick name = g := by simp [Font.pick, h]
theorem times_bound {r : Int} (h1 : 1 ≤ r) (h2 : r ≤ 1000) (q : Part) : 1 ≤ times r q ∧ times r q ≤ 1000 := by unfold times; split <;> omega
theorem sizedR_eq {f : Font} (hv : f.valid = true) {p : Int} (h1 : 1 ≤ p) (h2 : p ≤ 100) (name : ByteArray) : sizedR f name p = (glyphBox ((f.pick name).scaled p) p, 0) ∧ scaledR (f.pick name) p = ((f.pick name).scaled p, 0) := by
  have hs := pick_small hv name
  have e : scaledR (f.pick name) p = ((f.pick name).scaled p, 0) := by
    unfold scaledR
    rw [if_neg (by simp [inB]; omega), if_neg]
    unfold Glyph.Small at hs
    simp [inB, Glyph.mets]
    omega
  unfold sizedR
  rw [e]
  simp
theorem scaled_b {f : Font} (hv : f.valid = true) {p : Int} (h1 : 1 ≤ p) (h2 : p ≤ 100) (name : ByteArray) : (-200000 ≤ ((f.pick name).scaled p).w ∧ ((f.pick name).scaled p).w ≤ 200000) ∧ (-200000 ≤ ((f.pick name).scaled p).h ∧ ((f.pick name).scaled p).h ≤ 200000) ∧ (-200000 ≤ ((f.pick name).scaled p).d ∧ ((f.pick name).scaled p).d ≤ 200000) ∧ (-200000 ≤ ((f.pick name).scaled p).italic ∧ ((f.pick name).scaled p).italic ≤ 200000) := by
  have hs := pick_small hv name
  unfold Glyph.Small at hs
  exact scaled_small _ _ (by simp [inB]; omega) (by simp [inB, Glyph.mets]; omega)
theorem sized_hd {f : Font} (hv : f.valid = true) {p : Int} (h1 : 1 ≤ p) (h2 : p ≤ 100) (name : ByteArray) : IntKind.i64.wrap ((sizedR f name p).1.h + (sizedR f name p).1.d) = sizeH f name p := by
  obtain ⟨e1, e2⟩ := sizedR_eq hv h1 h2 name
  have := scaled_b hv h1 h2 name
  rw [e1]
  unfold sizeH
  rw [e2]
  exact wrap_i64 (by simp only [glyphBox]; omega) (by simp only [glyphBox]; omega)
theorem tallF_bound (f : Font) (r : Int) (hsm : ∀ name, (f.pick name).Small) (h1 : 1 ≤ r) (h2 : r ≤ 1000) : ∀ (l : List Part) (h c : Int), h - 40000000 * (l.length : Int) ≤ (tallF f r h c l).1 ∧ (tallF f r h c l).1 ≤ h + 40000000 * (l.length : Int) ∧ c + (l.length : Int) ≤ (tallF f r h c l).2 ∧ (tallF f r h c l).2 ≤ c + 1000 * (l.length : Int)
  | [], h, c => by simp [tallF]
  | q :: l, h, c => by
    have ih := tallF_bound f r hsm h1 h2 l (h + times r q * (f.pick q.name).height) (c + times r q)
    have hs := hsm q.name
    unfold Glyph.Small at hs
    obtain ⟨t1, t2⟩ := times_bound h1 h2 q
    have m := mul_bound (f.pick q.name).height (times r q) 40000 1000 (by unfold Glyph.height; omega) (by unfold Glyph.height; omega) (by omega) t2
    rw [Int.mul_comm (f.pick q.name).height] at m
    simp only [tallF, List.length_cons] at ih ⊢
    simp only [Int.natCast_add, Int.natCast_one] at ih ⊢
    omega
theorem tallI_bound {f : Font} (hv : f.valid = true) {s : Stretch} (hs : s ∈ f.stretches) {r : Int} (h1 : 1 ≤ r) (h2 : r ≤ 1000) : -1000000000 ≤ tallI f s r ∧ tallI f s r ≤ 1000000000 := by
  obtain ⟨_, _, g3, g4, g5, g6⟩ := good_of hv hs
  have := tallF_bound f r (pick_small hv) h1 h2 s.parts 0 0
  have m := mul_bound s.overlap ((tallF f r 0 0 s.parts).2) 60000 8000 (by omega) g5 (by omega) (by omega)
  rw [Int.mul_comm s.overlap] at m
  unfold tallI
  rw [Int.sub_mul]
  omega
theorem rnd_scale {n p : Int} (h1 : -1073741824 ≤ n) (h2 : n ≤ 1073741824) (h3 : 0 ≤ p) (h4 : p ≤ 10000) : rnd (n * p) 100 = scale n p := by
  unfold scale
  rw [if_pos ⟨by simp [lenValid]; omega, by omega, by omega⟩]
/-- the height of a choice -/
def heightI (f : Font) (name : ByteArray) (c : Choice) (p : Int) : Int := if c.rep = 0 then sizeH f c.glyph p else scale (tallI f ((f.stretch name).getD Stretch.zero) c.rep) p
theorem srch_step (f : Font) (s : Stretch) (p need r : Int) (h1 : 1 ≤ r) (h2 : r < 1000) : srch f s p need (1000 - r).toNat = if need ≤ scale (tallI f s r) p then r else srch f s p need (1000 - (r + 1)).toNat := by
  obtain ⟨n, hn⟩ : ∃ n : Nat, r = 1000 - ((n : Int) + 1) := ⟨(999 - r).toNat, by omega⟩
  subst hn
  have e1 : (1000 - (1000 - ((n : Int) + 1))).toNat = n + 1 := by omega
  have e2 : (1000 - (1000 - ((n : Int) + 1) + 1)).toNat = n := by omega
  rw [e1, e2]
  rfl
def choiceEV (q : Choice × Int) : V := .tup [choiceV q.1, errV q.2]
theorem maxW_snoc : ∀ (l : List Box) (m : Int) (b : Box), maxW m (l ++ [b]) = mx (maxW m l) b.w
  | [], m, b => rfl
  | x :: l, m, b => by simp only [List.cons_append, maxW]; exact maxW_snoc l _ b
theorem rows_snoc : ∀ (l : List Box) (b : Box), Box.rows (l ++ [b]) = Box.rows l ++ [b.row]
  | [], b => rfl
  | x :: l, b => by simp only [List.cons_append, Box.rows]; rw [rows_snoc l b]
@[simp] theorem rows_len : ∀ (l : List Box), (Box.rows l).length = l.length
  | [] => rfl
  | x :: l => by simp only [Box.rows, List.length_cons]; rw [rows_len l]
theorem pieces_len {r : Int} (h1 : 1 ≤ r) (h2 : r ≤ 1000) : ∀ l : List Part, (piecesL r l).length ≤ 1000 * l.length
  | [] => by simp [piecesL]
  | q :: l => by
    have := pieces_len h1 h2 l
    obtain ⟨t1, t2⟩ := times_bound h1 h2 q
    simp only [piecesL, List.length_append, List.length_replicate, List.length_cons]
    omega
theorem scale_lb {n p : Int} (h1 : 0 ≤ n) (h2 : n ≤ 1000000000) (h3 : 0 ≤ p) (h4 : p ≤ 100) : 0 ≤ scale n p ∧ scale n p ≤ 1000000001 := by
  have hm : 0 ≤ n * p := Int.mul_nonneg h1 h3
  have hm2 : n * p ≤ n * 100 := Int.mul_le_mul_of_nonneg_left h4 h1
  rw [← rnd_scale (by omega) (by omega) h3 (by omega)]
  unfold rnd
  rw [if_pos hm]
  omega
/-- the machine's box of a list under way -/
def lstC (w h : Int) (kids : V) : List V := [.c (.int .i64 3), .c (.str ⟨#[]⟩), .c (.int .i64 0), .c (.int .i64 w), .c (.int .i64 h), .c (.int .i64 0), .c (.int .i64 0), .c (.int .i64 0), kids, .c (.int .i64 0), .full []]
def zboxC : List V := [.c (.int .i64 0), .c (.str ⟨#[]⟩), .c (.int .i64 0), .c (.int .i64 0), .c (.int .i64 0), .c (.int .i64 0), .c (.int .i64 0), .c (.int .i64 0), .full [], .c (.int .i64 0), .full []]
theorem check_zero {f : Font} {p : Int} (hk : checkR f p = 0) : f.valid = true ∧ 1 ≤ p ∧ p ≤ 100 := by
  unfold checkR at hk
  have hv : f.valid = true := by cases h : f.valid <;> simp [h] at hk; rfl
  rw [if_neg (by simp [hv])] at hk
  refine ⟨hv, ?_⟩
  split at hk <;> omega
theorem isR_rep {f : Font} {name cg : ByteArray} {cr : Int} (h0 : ¬ cr = 0) (hi : isR f name ⟨cg, cr⟩ = true) : ∃ s, f.stretch name = some s ∧ s.parts ≠ [] ∧ 1 ≤ cr ∧ cr ≤ 1000 ∧ cg = ⟨#[]⟩ := by
  unfold isR at hi
  cases hst : f.stretch name with
  | none => rw [hst] at hi; simp [h0] at hi
  | some s =>
    rw [hst] at hi
    simp [h0] at hi
    exact ⟨s, rfl, List.length_pos_iff.1 hi.2.1, by omega, by omega, hi.1⟩
/-- Find -/
def findR (f : Font) (name : ByteArray) (need p : Int) : Box × Int := if checkR f p ≠ 0 then (Box.zero, checkR f p) else boxR f name (chooseI f name need p) p
end Go.Proofs.Ythbcljjpmdfflaa
