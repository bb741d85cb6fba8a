/-
  Layer 6's laws: VariantPieces.
-/
import Derived.Test.YthbcljjpmdfflaaLk
namespace Go.Proofs.Ythbcljjpmdfflaa
open Go.RowKit
set_option linter.unusedSimpArgs false
set_option linter.unusedVariables false
set_option maxRecDepth 100000

theorem bot_append (f : Font) (ov : Int) : ∀ (A B : List Part) (b : Int), bot f ov b (A ++ B) = bot f ov (bot f ov b A) B
  | [], B, b => rfl
  | q :: A, B, b => by simp only [List.cons_append, bot]; exact bot_append f ov A B _
theorem bot_rep (f : Font) (ov : Int) (q : Part) : ∀ (n : Nat) (b : Int), bot f ov b (List.replicate n q) = b + (n : Int) * ((f.pick q.name).height - ov)
  | 0, b => by simp [bot]
  | n + 1, b => by
    simp only [List.replicate_succ, bot, bot_rep f ov q n]
    rw [Int.natCast_add, Int.add_mul]
    omega
theorem tall_bot (f : Font) (r ov : Int) (h1 : 1 ≤ r) : ∀ (l : List Part) (h c b : Int), bot f ov b (piecesL r l) = b + ((tallF f r h c l).1 - h) - ((tallF f r h c l).2 - c) * ov
  | [], h, c, b => by simp [piecesL, bot, tallF]
  | q :: l, h, c, b => by
    simp only [piecesL, bot_append, bot_rep, tallF]
    rw [tall_bot f r ov h1 l (h + times r q * (f.pick q.name).height) (c + times r q) _]
    have ht : ((times r q).toNat : Int) = times r q := by unfold times; split <;> omega
    rw [ht]
    generalize tallF f r (h + times r q * (f.pick q.name).height) (c + times r q) l = z
    generalize times r q = t
    generalize (f.pick q.name).height = g
    rw [Int.mul_sub, Int.sub_mul, Int.sub_mul, Int.add_mul]
    omega
theorem tall_top (f : Font) (s : Stretch) {r : Int} (h1 : 1 ≤ r) : tallI f s r = bot f s.overlap 0 (piecesL r s.parts) + s.overlap := by
  have := tall_bot f r s.overlap h1 s.parts 0 0 0
  unfold tallI
  rw [this, Int.sub_mul]
  simp only [Int.sub_zero, Int.zero_add, Int.one_mul]
  omega
theorem rnd_near (a : Int) : 2 * a - 100 ≤ 200 * rnd a 100 ∧ 200 * rnd a 100 ≤ 2 * a + 100 := by
  unfold rnd
  split <;> omega
theorem scale_rn {n p : Int} (h1 : -1000000000 ≤ n) (h2 : n ≤ 1000000000) (h3 : 0 ≤ p) (h4 : p ≤ 100) : 2 * (n * p) - 100 ≤ 200 * scale n p ∧ 200 * scale n p ≤ 2 * (n * p) + 100 := by
  rw [← rnd_scale (by omega) (by omega) h3 (by omega)]
  exact rnd_near _
theorem scale_mono {n m p : Int} (h : n ≤ m) (h1 : -1000000000 ≤ n) (h2 : m ≤ 1000000000) (h3 : 0 ≤ p) (h4 : p ≤ 100) : scale n p ≤ scale m p := by
  rw [← rnd_scale (n := n) (by omega) (by omega) h3 (by omega), ← rnd_scale (n := m) (by omega) (by omega) h3 (by omega)]
  have hm : n * p ≤ m * p := Int.mul_le_mul_of_nonneg_right h h3
  unfold rnd
  split <;> split <;> omega
theorem scale_three {b h d p : Int} (hb1 : -500000000 ≤ b) (hb2 : b ≤ 500000000) (hh1 : -20000 ≤ h) (hh2 : h ≤ 20000) (hd1 : -20000 ≤ d) (hd2 : d ≤ 20000) (h3 : 0 ≤ p) (h4 : p ≤ 100) : scale b p + scale d p + scale h p ≤ scale (b + (h + d)) p + 2 := by
  have r1 := scale_rn (n := b) (p := p) (by omega) (by omega) h3 h4
  have r2 := scale_rn (n := d) (p := p) (by omega) (by omega) h3 h4
  have r3 := scale_rn (n := h) (p := p) (by omega) (by omega) h3 h4
  have r4 := scale_rn (n := b + (h + d)) (p := p) (by omega) (by omega) h3 h4
  rw [Int.add_mul, Int.add_mul] at r4
  omega
theorem kids_get (f : Font) (ov p : Int) : ∀ (l : List Part) (b : Int) (i : Nat) (q : Part), l[i]? = some q → (asmKids f ov p b l)[i]? = some (pieceBox f p (bot f ov b (l.take i)) q)
  | [], b, i, q, h => by simp at h
  | x :: l, b, 0, q, h => by simp at h; subst h; simp [asmKids, bot]
  | x :: l, b, i + 1, q, h => by
    simp only [asmKids, List.getElem?_cons_succ, List.take_succ_cons, bot]
    exact kids_get f ov p l _ i q (by simpa using h)
theorem rows_get : ∀ (l : List Box) (i : Nat) (b : Box), l[i]? = some b → ∀ h', (Box.rows l)[i]'h' = b.row
  | [], i, b, h => by simp at h
  | x :: l, 0, b, h => by intro h'; simp at h; subst h; simp [Box.rows]
  | x :: l, i + 1, b, h => by
    intro h'
    simp only [Box.rows, List.getElem_cons_succ]
    exact rows_get l i b (by simpa using h) _
theorem pieces_mem {r : Int} : ∀ {l : List Part} {q : Part}, q ∈ piecesL r l → q ∈ l
  | x :: l, q, h => by
    simp only [piecesL, List.mem_append] at h
    rcases h with h | h
    · rw [List.eq_of_mem_replicate h]; exact List.mem_cons_self
    · exact List.mem_cons_of_mem _ (pieces_mem h)
/-- what the law asks of a piece -/
theorem kid_facts {f : Font} (hv : f.valid = true) {s : Stretch} (hs : s ∈ f.stretches) {r p : Int} (r1 : 1 ≤ r) (r2 : r ≤ 1000) (hp1 : 1 ≤ p) (hp2 : p ≤ 100) {kids : List Box} (hk : asmKids f s.overlap p 0 (piecesL r s.parts) = kids) (i : Nat) (hi : i < kids.length) :
    ∃ kn ks kw kh kd ky kk ko ksrc, kids[i]? = some ⟨1, kn, ks, kw, kh, kd, 0, ky, kk, ko, ksrc⟩ ∧ ky - kd = scale (bot f s.overlap 0 ((piecesL r s.parts).take i)) p ∧ ky + kh ≤ scale (tallI f s r) p + 2 ∧ kw ≤ maxW 0 kids ∧
      scale (bot f s.overlap 0 ((piecesL r s.parts).take i)) p ≤ scale (bot f s.overlap 0 ((piecesL r s.parts).take (i + 1))) p ∧ 0 ≤ scale (bot f s.overlap 0 ((piecesL r s.parts).take i)) p ∧ scale (bot f s.overlap 0 ((piecesL r s.parts).take i)) p ≤ 1000000001 ∧ -2000000000 ≤ ky + kh ∧ -200000 ≤ kd ∧ kd ≤ 200000 ∧ -2000000000 ≤ ky ∧ ky ≤ 2000000000 := by
  obtain ⟨_, _, g3, g4, g5, g6⟩ := good_of hv hs
  have hlen : kids.length = (piecesL r s.parts).length := by rw [← hk, kids_len]
  have hpl := pieces_len r1 r2 s.parts
  have hil : i < (piecesL r s.parts).length := by omega
  obtain ⟨q, hq⟩ : ∃ q, (piecesL r s.parts)[i] = q := ⟨_, rfl⟩
  have hqi : (piecesL r s.parts)[i]? = some q := by rw [List.getElem?_eq_getElem hil, hq]
  have hqm : q ∈ s.parts := pieces_mem (mem_of_get hqi)
  have hinc : ∀ q ∈ piecesL r s.parts, 0 ≤ (f.pick q.name).height - s.overlap ∧ (f.pick q.name).height - s.overlap ≤ 40000 := by
    intro q hq
    have h1 := g6 q (pieces_mem hq)
    have hsm := pick_small hv q.name
    unfold Glyph.Small at hsm
    unfold Glyph.height at h1 ⊢
    omega
  have hb := bot_bound f s.overlap 40000 ((piecesL r s.parts).take i) 0 (fun q hq => hinc q (List.mem_of_mem_take hq))
  have hbl : ((piecesL r s.parts).take i).length ≤ 8000 := by rw [List.length_take]; omega
  obtain ⟨b, hbb⟩ : ∃ b, bot f s.overlap 0 ((piecesL r s.parts).take i) = b := ⟨_, rfl⟩
  have hnext : bot f s.overlap 0 ((piecesL r s.parts).take (i + 1)) = b + ((f.pick q.name).height - s.overlap) := by
    rw [List.take_succ_eq_append_getElem hil, bot_snoc, hbb, hq]
  have hend : bot f s.overlap 0 ((piecesL r s.parts).take (i + 1)) ≤ bot f s.overlap 0 (piecesL r s.parts) := by
    have e : bot f s.overlap 0 (piecesL r s.parts) = bot f s.overlap (bot f s.overlap 0 ((piecesL r s.parts).take (i + 1))) ((piecesL r s.parts).drop (i + 1)) := by rw [← bot_append, List.take_append_drop]
    rw [e]
    exact (bot_bound f s.overlap 40000 _ _ (fun q hq => hinc q (List.mem_of_mem_drop hq))).1
  have htop := tall_top f s r1
  obtain ⟨tb1, tb2⟩ := tallI_bound hv hs r1 r2
  have hkid := kids_get f s.overlap p (piecesL r s.parts) 0 i q hqi
  rw [hk, hbb] at hkid
  have hsm := pick_small hv q.name
  unfold Glyph.Small at hsm
  have hst := sizedR_eq hv hp1 hp2 q.name
  have hsc := scaled_b hv hp1 hp2 q.name
  have hi0 := hinc q (mem_of_get hqi)
  rw [hbb] at hb ⊢
  rw [hnext] at hend ⊢
  have hw : (pieceBox f p b q).w ≤ maxW 0 kids := (maxW_le kids 0).2 _ (mem_of_get hkid)
  have hgh : (f.pick q.name).height = (f.pick q.name).h + (f.pick q.name).d := rfl
  have m1 := scale_mono (n := b) (m := b + ((f.pick q.name).height - s.overlap)) (p := p) (by omega) (by omega) (by omega) (by omega) hp2
  have m2 := scale_mono (n := b + ((f.pick q.name).h + (f.pick q.name).d)) (m := tallI f s r) (p := p) (by omega) (by omega) tb2 (by omega) hp2
  have m3 := scale_three (b := b) (h := (f.pick q.name).h) (d := (f.pick q.name).d) (p := p) (by omega) (by omega) (by omega) (by omega) (by omega) (by omega) (by omega) hp2
  have m4 := scale_lb (n := b) (p := p) (by omega) (by omega) (by omega) hp2
  have hpb : pieceBox f p b q = ⟨1, (f.pick q.name).name, p, (glyphBox ((f.pick q.name).scaled p) p).w, scale (f.pick q.name).h p, scale (f.pick q.name).d p, 0, scale b p + scale (f.pick q.name).d p, [], 0, []⟩ := by
    unfold pieceBox
    rw [hst.1]
    rfl
  have eh : ((f.pick q.name).scaled p).h = scale (f.pick q.name).h p := rfl
  have ed : ((f.pick q.name).scaled p).d = scale (f.pick q.name).d p := rfl
  rw [eh, ed] at hsc
  rw [hpb] at hkid hw
  exact ⟨_, _, _, _, _, _, _, _, _, hkid, by omega, by omega, hw, m1, m4.1, m4.2, by omega, by omega, by omega, by omega, by omega⟩

theorem pieces_app (r : Int) (A B : List Part) : piecesL r (A ++ B) = piecesL r A ++ piecesL r B := by
  rw [pieces_flat, pieces_flat, pieces_flat, List.flatMap_append]
theorem pieces_cnt {r : Int} (h1 : 1 ≤ r) {l : List Part} {k : Nat} (h : k < l.length) : ((piecesL r (l.take (k + 1))).length : Int) = ((piecesL r (l.take k)).length : Int) + times r l[k] := by
  rw [List.take_succ_eq_append_getElem h, pieces_app, List.length_append]
  have : piecesL r [l[k]] = List.replicate (times r l[k]).toNat l[k] := by simp [piecesL]
  rw [this, List.length_replicate]
  have ht : 0 ≤ times r l[k] := by unfold times; split <;> omega
  push_cast
  omega
end Go.Proofs.Ythbcljjpmdfflaa
