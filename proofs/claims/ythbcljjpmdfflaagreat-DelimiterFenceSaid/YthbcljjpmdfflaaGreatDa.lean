/-
 Layer 33, plain: the sign, the parts of a root.
-/
import Derived.Test.YthbcljjpmdfflaaGreatGD
import Derived.Test.YthbcljjpmdfflaaGreatGA
namespace Go.Proofs.YthbcljjpmdfflaaGreat
open Go.RowKit
set_option linter.unusedSimpArgs false
set_option linter.unusedVariables false
theorem scale_any {p : Int} (n : Int) (h1 : 0 ≤ p) (h2 : p ≤ 100) : -1073741824 ≤ scale n p ∧ scale n p ≤ 1073741824 := by
 unfold scale
 split
 · rename_i h
   obtain ⟨hv, _, _⟩ := h
   simp [lenValid] at hv
   have := mul_bound n p 1073741824 100 (by omega) (by omega) (by omega) (by omega)
   exact rnd_bound _ _ (by omega) (by omega)
 · omega
theorem half_any (n : Int) : -1073741824 ≤ half n ∧ half n ≤ 1073741824 := by
 unfold half
 split
 · rename_i hv
   simp [lenValid] at hv
   unfold rnd
   split <;> omega
 · omega
theorem half_le {n : Int} (h : 0 ≤ n) : 0 ≤ half n ∧ half n ≤ n := by
 unfold half
 split
 · unfold rnd
   rw [if_pos h]
   omega
 · omega
theorem findO_in {name : ByteArray} {g : Glyph} : ∀ {l : List Glyph}, findO name l = some g → g ∈ l ∧ g.name = name
 | [], h => by simp [findO] at h
 | x :: r, h => by
   simp only [findO] at h
   split at h
   · cases h; exact ⟨List.mem_cons_self, by assumption⟩
   · have := findO_in h; exact ⟨List.mem_cons_of_mem _ this.1, this.2⟩
theorem pick_ok {f : Font} (hv : f.valid = true) (name : ByteArray) (hn : name.size ≤ 16) : 0 ≤ (f.pick name).w ∧ (f.pick name).name.size ≤ 16 := by
 have hok : ∀ g ∈ f.glyphs, 0 ≤ g.w ∧ g.name.size ≤ 16 := by
  intro g hg
  have := valid_glyphs hv g hg
  simp [glyphOk, inB, nameB] at this
  omega
 unfold Font.pick
 split
 · rename_i g hg; exact hok g (findO_in hg).1
 · split
   · rename_i g hg; exact hok g (findO_in hg).1
   · simp [Glyph.zero, hn]
structure SignOk (b : Box) : Prop where
 dok : b.dok
 okk : b.okk
 fit : b.fit
 cnt : b.cnt ≤ 8001
 h1 : -1000000001 ≤ b.h
 h2 : b.h ≤ 1000000001
 d1 : -1000000001 ≤ b.d
 d2 : b.d ≤ 1000000001
 w1 : 0 ≤ b.w
 w2 : b.w ≤ 400000
theorem sized_ok {f : Font} (hv : f.valid = true) {p : Int} (h1 : 1 ≤ p) (h2 : p ≤ 100) {name : ByteArray} (hn : name.size ≤ 16) : SignOk (sizedR f name p).1 ∧ (sizedR f name p).1.kids = [] ∧ (sizedR f name p).1.cnt = 1 := by
 obtain ⟨e, _⟩ := sizedR_eq hv h1 h2 name
 have hb := scaled_b hv h1 h2 name
 obtain ⟨k1, k2⟩ := pick_ok hv name hn
 rw [e]
 have hw : 0 ≤ ((f.pick name).scaled p).w := scale_nn k1 (by omega)
 have hn' : ((f.pick name).scaled p).name.size ≤ 16 := k2
 obtain ⟨G, hG⟩ : ∃ G, (f.pick name).scaled p = G := ⟨_, rfl⟩
 rw [hG] at hb hw hn' ⊢
 have hm : 0 ≤ mx 0 G.italic ∧ mx 0 G.italic ≤ 200000 := by rw [mx_eq]; omega
 refine ⟨⟨?_, ?_, ?_, ?_, ?_, ?_, ?_, ?_, ?_, ?_⟩, rfl, ?_⟩
 · simp [glyphBox, Box.dok, Box.doks]
 · simp [glyphBox, Box.okk, Box.okks, maxLen]; omega
 · simp [glyphBox, Box.fit, Box.fits, maxLen]
 · simp [glyphBox, Box.cnt, Box.cnts]
 all_goals simp only [glyphBox, Box.cnt, Box.cnts]
 all_goals omega
theorem piece_ok {f : Font} (hv : f.valid = true) {p : Int} (h1 : 1 ≤ p) (h2 : p ≤ 100) (ov : Int) : ∀ (l : List Part) (b : Int), (∀ q ∈ l, q.name.size ≤ 16) → Box.doks (asmKids f ov p b l) ∧ Box.okks (asmKids f ov p b l) ∧ Box.fits (asmKids f ov p b l) ∧ Box.cnts (asmKids f ov p b l) = l.length ∧ ∀ m, 0 ≤ m → m ≤ 400000 → 0 ≤ maxW m (asmKids f ov p b l) ∧ maxW m (asmKids f ov p b l) ≤ 400000
 | [], b, _ => by
   simp only [asmKids, Box.doks, Box.okks, Box.fits, Box.cnts, maxW, List.length_nil, true_and]
   exact fun m h1 h2 => ⟨h1, h2⟩
 | q :: l, b, hq => by
   obtain ⟨i1, i2, i3, i4, i5⟩ := piece_ok hv h1 h2 ov l (b + ((f.pick q.name).height - ov)) fun x hx => hq x (List.mem_cons_of_mem _ hx)
   obtain ⟨ho, hk, hc⟩ := sized_ok hv h1 h2 (hq q List.mem_cons_self)
   simp only [asmKids, pieceBox, Box.doks, Box.okks, Box.fits, Box.cnts, maxW]
   obtain ⟨B, hB⟩ : ∃ B, (sizedR f q.name p).1 = B := ⟨_, rfl⟩
   rw [hB] at ho hk hc ⊢
   obtain ⟨o1, o2, o3, o4, _, _, _, _, o9, o10⟩ := ho
   obtain ⟨bk, bn, bs, bw, bh, bd, bx, by_, bkids, bo, bsrc⟩ := B
   simp only [Box.dok, Box.okk, Box.fit, Box.cnt] at o1 o2 o3 hc o9 o10 ⊢
   refine ⟨⟨o1, i1⟩, ⟨o2, i2⟩, ⟨o3, i3⟩, by rw [hc, i4, List.length_cons]; omega, fun m m1 m2 => i5 _ ?_ ?_⟩
   all_goals (rw [mx_eq]; omega)
theorem partsFold_names (ht : ByteArray → Option Int) : ∀ (l : List Part) (a : Int) (e : Bool) (r : Int × Bool), partsFold ht a e l = some r → ∀ q ∈ l, ∃ h, ht q.name = some h
 | [], a, e, r, _, q, hq => by cases hq
 | x :: l, a, e, r, h, q, hq => by
   simp only [partsFold] at h
   cases hx : ht x.name with
   | none => rw [hx] at h; cases h
   | some y =>
     rw [hx] at h
     rcases List.mem_cons.1 hq with rfl | hq
     · exact ⟨y, hx⟩
     · exact partsFold_names ht l _ _ r h q hq
theorem ht_name {f : Font} (hv : f.valid = true) {name : ByteArray} {h : Int} (e : f.ht name = some h) : name.size ≤ 16 := by
 simp only [Font.ht, Option.map_eq_some_iff] at e
 obtain ⟨g, hg, _⟩ := e
 obtain ⟨m, rfl⟩ := findO_in hg
 have := valid_glyphs hv g m
 simp [glyphOk, nameB] at this
 omega
theorem part_names {f : Font} (hv : f.valid = true) {s : Stretch} (hs : s ∈ f.stretches) : ∀ q ∈ s.parts, q.name.size ≤ 16 := by
 intro q hq
 have h := valid_stretches hv s hs
 simp only [stretchOk, Bool.and_eq_true] at h
 obtain ⟨_, _, h4⟩ := h
 rw [if_neg (by intro e; rw [e] at hq; cases hq)] at h4
 unfold partsOk at h4
 cases hf : partsFold f.ht 60000 false s.parts with
 | none => rw [hf] at h4; cases h4
 | some x =>
   obtain ⟨y, hy⟩ := partsFold_names _ _ _ _ _ hf q hq
   exact ht_name hv hy
theorem sizes_names {f : Font} (hv : f.valid = true) : ∀ (l : List ByteArray) (a : Int), sizesOk f.ht a l = true → ∀ n ∈ l, n.size ≤ 16
 | [], a, _, n, hn => by cases hn
 | x :: l, a, h, n, hn => by
   simp only [sizesOk] at h
   cases hx : f.ht x with
   | none => rw [hx] at h; cases h
   | some y =>
     rw [hx] at h
     simp only [Bool.and_eq_true] at h
     rcases List.mem_cons.1 hn with rfl | hn
     · exact ht_name hv hx
     · exact sizes_names hv l _ h.2 n hn
theorem hasS_in {x : ByteArray} : ∀ {l : List ByteArray}, hasS x l = true → x ∈ l
 | [], h => by simp [hasS] at h
 | y :: l, h => by
   simp only [hasS] at h
   split at h
   · rename_i e; subst e; exact List.mem_cons_self
   · exact List.mem_cons_of_mem _ (hasS_in h)
theorem pieces_in {r : Int} : ∀ {l : List Part} {q : Part}, q ∈ piecesL r l → q ∈ l
 | [], q, h => by simp [piecesL] at h
 | x :: l, q, h => by
   simp only [piecesL, List.mem_append] at h
   rcases h with h | h
   · rw [List.eq_of_mem_replicate h]; exact List.mem_cons_self
   · exact List.mem_cons_of_mem _ (pieces_in h)
theorem find_ok {f : Font} (hv : f.valid = true) {p : Int} (h1 : 1 ≤ p) (h2 : p ≤ 100) {name : ByteArray} (hn : name.size ≤ 16) (need : Int) : (findR f name need p).2 = 0 ∧ SignOk (findR f name need p).1 := by
 have hk : checkR f p = 0 := by unfold checkR; rw [if_neg (by simp [hv]), if_neg (by omega)]
 have his := choose_is hv name need p
 obtain ⟨c, hc⟩ : ∃ c, chooseI f name need p = c := ⟨_, rfl⟩
 unfold findR
 rw [if_neg (by simp [hk]), hc]
 rw [hc] at his
 unfold boxR
 rw [if_neg (by simp [hk]), if_neg (by simp [his])]
 by_cases h0 : c.rep = 0
 · rw [if_pos h0]
   refine ⟨by first | rfl | (rw [(sizedR_eq hv h1 h2 c.glyph).1]), (sized_ok hv h1 h2 ?_).1⟩
   unfold isR at his
   cases hst : f.stretch name with
   | none => rw [hst] at his; simp [h0] at his; rw [his]; exact hn
   | some s =>
     rw [hst] at his
     simp [h0] at his
     have hs := (stretchO_mem hst).1
     have h := valid_stretches hv s hs
     simp only [stretchOk, Bool.and_eq_true] at h
     exact sizes_names hv _ _ h.2.1 _ (hasS_in his)
 · rw [if_neg h0]
   obtain ⟨s, hst, hpn, r1, r2, _⟩ := isR_rep (cg := c.glyph) (cr := c.rep) h0 his
   have hs := (stretchO_mem hst).1
   obtain ⟨_, _, g3, _⟩ := good_of hv hs
   have hl := pieces_len r1 r2 s.parts
   have hnm : ∀ q ∈ piecesL c.rep s.parts, q.name.size ≤ 16 := fun q hq => part_names hv hs q (pieces_in hq)
   obtain ⟨i1, i2, i3, i4, i5⟩ := piece_ok hv h1 h2 s.overlap (piecesL c.rep s.parts) 0 hnm
   have hw := i5 0 (by omega) (by omega)
   obtain ⟨t1, t2⟩ := tallI_bound hv hs r1 r2
   have hh := scale_bd (n := tallI f s c.rep) (p := p) t1 t2 (by omega) h2
   refine ⟨rfl, ?_⟩
   rw [hst]
   simp only [Option.getD_some, asmBox]
   refine ⟨?_, ?_, ?_, ?_, ?_, ?_, ?_, ?_, ?_, ?_⟩
   · simp only [Box.dok]; exact ⟨by simp, i1⟩
   · simp only [Box.okk]; exact ⟨(Nat.zero_le _ : 0 ≤ maxLen), (Nat.zero_le _ : 0 ≤ maxLen), i2⟩
   · simp only [Box.fit]; exact ⟨by rw [kids_len]; unfold maxLen; omega, (Nat.zero_le _ : 0 ≤ maxLen), i3⟩
   · simp only [Box.cnt]; omega
   all_goals simp only
   all_goals omega
theorem size_ok {f : Font} {s : Style} (hv : f.valid = true) (ho : s.ok = true) : 1 ≤ sizeOf_ f.params s ∧ sizeOf_ f.params s ≤ 100 := by
 have hp : paramsOk f.params = true := by simp only [Font.valid, Bool.and_eq_true] at hv; exact hv.1.2.2
 simp [paramsOk, inB, Params.perc] at hp
 unfold sizeOf_
 rw [if_neg (by simp [ho])]
 split
 · omega
 · split <;> omega
def root_ : ByteArray := ⟨#[114, 111, 111, 116]⟩
def rdP (f : Font) (s : Style) : Int := sizeOf_ f.params s
def rdR (f : Font) (s : Style) : Int := scale f.params.rule (rdP f s)
def rdL (f : Font) (s : Style) : Int := if s.level = 0 then rdR f s + scale (scale f.params.xHeight (rdP f s)) 25 else rdR f s + scale (rdR f s) 25
def rdN (f : Font) (s : Style) (b : Box) : Int := b.h + b.d + rdL f s + rdR f s
def rdS (f : Font) (s : Style) (b : Box) : Box := (findR f root_ (rdN f s b) (rdP f s)).1
def rdG (f : Font) (s : Style) (b : Box) : Int := if rdN f s b < (rdS f s b).h + (rdS f s b).d then rdL f s + half ((rdS f s b).h + (rdS f s b).d - rdN f s b) else rdL f s
def rdY (f : Font) (s : Style) (b : Box) : Int := b.h + rdG f s b
def rdT (f : Font) (s : Style) (b : Box) : Int := rdY f s b + rdR f s
def rdB (f : Font) (s : Style) (b : Box) : Int := rdT f s b - (rdS f s b).h - (rdS f s b).d
def rdQ (f : Font) (s : Style) : Int := scale f.params.quad (rdP f s)
def rdA (f : Font) (s : Style) (g : Box) : Int := mx 0 (scale (rdQ f s) 28 + g.w - scale (rdQ f s) 56)
def rdV (f : Font) (s : Style) (b g : Box) : Int := rdB f s b + scale (rdT f s b - rdB f s b) 60 + mx 0 g.d
def rdAt (f : Font) (s : Style) : List Box → Int
 | [] => 0
 | g :: _ => rdA f s g
def rdH (f : Font) (s : Style) (b : Box) : List Box → Int
 | [] => mx (rdT f s b) b.h
 | g :: _ => mx (mx (rdT f s b) b.h) (rdV f s b g + g.h)
def rdD (f : Font) (s : Style) (b : Box) : List Box → Int
 | [] => mx (-(rdB f s b)) b.d
 | g :: _ => mx (mx (-(rdB f s b)) b.d) (g.d - rdV f s b g)
def rdK (f : Font) (s : Style) (b : Box) : List Box → List Box
 | [] => []
 | g :: _ => [g.at_ (rdA f s g + scale (rdQ f s) 56 - g.w) (rdV f s b g)]
def rdBox (f : Font) (s : Style) (b : Box) (deg : List Box) : Box :=
 listB (rdAt f s deg + (rdS f s b).w + mx 0 b.w) (rdH f s b deg) (rdD f s b deg)
  (rdK f s b deg ++ [(rdS f s b).at_ (rdAt f s deg) (rdT f s b - (rdS f s b).h), (ruleB (mx 0 b.w) (rdR f s) 0).at_ (rdAt f s deg + (rdS f s b).w) (rdY f s b), b.at_ (rdAt f s deg + (rdS f s b).w) 0])
def rdMake (f : Font) (s : Style) (b : Box) (deg : List Box) : Box × Int :=
 if f.valid = false ∨ s.ok = false ∨ b.validB = false ∨ deg.all Box.validB = false ∨ 1 < deg.length then (Box.zero, 1) else doneR (rdBox f s b deg)
theorem valid_len {b : Box} (h : b.validB = true) : (-1073741824 ≤ b.w ∧ b.w ≤ 1073741824) ∧ (-1073741824 ≤ b.h ∧ b.h ≤ 1073741824) ∧ (-1073741824 ≤ b.d ∧ b.d ≤ 1073741824) ∧ b.cnt ≤ 20000 := by
 simp only [Box.validB, Bool.and_eq_true, decide_eq_true_eq] at h
 obtain ⟨h1, h2, h3⟩ := h
 obtain ⟨bk, bn, bs, bw, bh, bd, bx, by_, bkids, bo, bsrc⟩ := b
 simp only [Box.propB, Box.ownB, Box.lens, Bool.and_eq_true, List.all_cons] at h1
 simp [lenValid] at h1
 simp only
 omega
mutual
theorem prop_dok : ∀ b : Box, b.propB = true → b.dok
 | ⟨bk, bn, bs, bw, bh, bd, bx, by_, bkids, bo, bsrc⟩, h => by
   simp only [Box.propB, Box.ownB, Bool.and_eq_true, Box.srcB] at h
   simp only [Box.dok]
   refine ⟨?_, props_dok bkids h.2⟩
   have h1 := h.1.2.2.2
   simp only [srcOf] at h1
   split at h1
   · simp only [decide_eq_true_eq] at h1; omega
   · split at h1
     · simp only [Bool.and_eq_true, decide_eq_true_eq] at h1; omega
     · split at h1
       · simp only [Bool.and_eq_true, decide_eq_true_eq] at h1; omega
       · cases h1
theorem props_dok : ∀ l : List Box, Box.propsB l = true → Box.doks l
 | [], _ => by simp [Box.doks]
 | b :: l, h => by
   simp only [Box.propsB, Bool.and_eq_true] at h
   simp only [Box.doks]
   exact ⟨prop_dok b h.1, props_dok l h.2⟩
end
theorem valid_dok {b : Box} (h : b.validB = true) : b.dok := by
 simp only [Box.validB, Bool.and_eq_true] at h
 exact prop_dok b h.1
theorem at_dok {b : Box} (x y : Int) (h : b.dok) : (b.at_ x y).dok := by cases b; exact h
theorem at_okk {b : Box} (x y : Int) (h : b.okk) : (b.at_ x y).okk := by cases b; exact h
theorem at_fit {b : Box} (x y : Int) (h : b.fit) : (b.at_ x y).fit := by cases b; exact h
theorem at_cnt (b : Box) (x y : Int) : (b.at_ x y).cnt = b.cnt := by cases b; rfl
theorem rule_dok (w h d : Int) : (ruleB w h d).dok := by simp [ruleB, Box.dok, Box.doks]
theorem rule_okk (w h d : Int) : (ruleB w h d).okk := ⟨(Nat.zero_le _ : 0 ≤ maxLen), (Nat.zero_le _ : 0 ≤ maxLen), trivial⟩
theorem rule_fit (w h d : Int) : (ruleB w h d).fit := by simp [ruleB, Box.fit, Box.fits, maxLen]
theorem rule_cnt (w h d : Int) : (ruleB w h d).cnt = 1 := by simp [ruleB, Box.cnt, Box.cnts]
structure RdOk (f : Font) (s : Style) (b : Box) : Prop where
 p1 : 1 ≤ rdP f s
 p2 : rdP f s ≤ 100
 r1 : -1073741824 ≤ rdR f s
 r2 : rdR f s ≤ 1073741824
 l1 : -2147483648 ≤ rdL f s
 l2 : rdL f s ≤ 2147483648
 sg : SignOk (rdS f s b)
 g1 : -4294967296 ≤ rdG f s b
 g2 : rdG f s b ≤ 4294967296
theorem rd_ok {f : Font} {s : Style} {b : Box} (hv : f.valid = true) (ho : s.ok = true) : RdOk f s b := by
 obtain ⟨p1, p2⟩ := size_ok hv ho
 have hr := scale_any (p := rdP f s) f.params.rule (by unfold rdP; omega) p2
 have hx := scale_any (p := 25) (scale f.params.xHeight (rdP f s)) (by omega) (by omega)
 have hx2 := scale_any (p := 25) (rdR f s) (by omega) (by omega)
 have hl : -2147483648 ≤ rdL f s ∧ rdL f s ≤ 2147483648 := by
  unfold rdL rdR at *
  split <;> omega
 have hs := (find_ok hv p1 p2 (name := root_) (by simp [root_, ByteArray.size]) (rdN f s b)).2
 have hh := half_any ((rdS f s b).h + (rdS f s b).d - rdN f s b)
 refine ⟨p1, p2, hr.1, hr.2, hl.1, hl.2, hs, ?_, ?_⟩
 all_goals
  unfold rdG
  split <;> omega
end Go.Proofs.YthbcljjpmdfflaaGreat
