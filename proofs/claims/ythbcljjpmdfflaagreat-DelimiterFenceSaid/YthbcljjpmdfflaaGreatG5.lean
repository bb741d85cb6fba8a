import Derived.Test.YthbcljjpmdfflaaGreatG4
import Derived.Test.YthbcljjpmdfflaaGreatG1
import Derived.Test.YthbcljjpmdfflaaGreatG2
/-
 Fonts, glyphs, stretches as data of the abstract machine.
-/
namespace Go.Proofs.YthbcljjpmdfflaaGreat
def Glyph.row (g : Glyph) : List C := [.str g.name, .int .i64 g.w, .int .i64 g.h, .int .i64 g.d, .int .i64 g.italic, .int .i64 g.attach]
def Part.row (p : Part) : List C := [.str p.name, .bool p.ext]
def sizesC (l : List ByteArray) : C := .sl (l.map fun n => [.str n])
def partsC (l : List Part) : C := .sl (l.map Part.row)
def Stretch.row (s : Stretch) : List C := [.str s.name, sizesC s.sizes, partsC s.parts, .int .i64 s.overlap]
def glyphsC (l : List Glyph) : C := .sl (l.map Glyph.row)
def stretchesC (l : List Stretch) : C := .sl (l.map Stretch.row)
def Params.list (p : Params) : List Int := [p.quad, p.xHeight, p.axis, p.rule, p.num1, p.num2, p.denom1, p.denom2, p.sup1, p.sup2, p.sup3, p.sub1, p.sub2, p.supDrop, p.subDrop, p.script, p.scriptScript, p.delimPercent, p.delimShort, p.accentHeight]
def Font.row (f : Font) : List C := glyphsC f.glyphs :: stretchesC f.stretches :: f.params.list.map (C.int .i64)
def Font.vs (f : Font) : List V := f.row.map V.c
def intsC (l : List Int) : C := .sl (l.map fun n => [.int .i64 n])
structure Box where
 kind : Int
 name : ByteArray
 size : Int
 w : Int
 h : Int
 d : Int
 x : Int
 y : Int
 kids : List Box
 of_ : Int
 src : List Int
mutual
def Box.row : Box → List C
 | ⟨k, n, s, w, h, d, x, y, kids, o, src⟩ => [.int .i64 k, .str n, .int .i64 s, .int .i64 w, .int .i64 h, .int .i64 d, .int .i64 x, .int .i64 y, .sl (Box.rows kids), .int .i64 o, intsC src]
def Box.rows : List Box → List (List C)
 | [] => []
 | b :: l => Box.row b :: Box.rows l
end
def Box.zero : Box := ⟨0, ⟨#[]⟩, 0, 0, 0, 0, 0, 0, [], 0, []⟩
def glyphV (g : Glyph) : V := .agg (g.row.map V.c)
def boxV (b : Box) : V := .agg (b.row.map V.c)
def errV (n : Int) : V := .c (.int .i64 n)
def glyphBox (g : Glyph) (p : Int) : Box := ⟨1, g.name, p, g.w + mx 0 g.italic, g.h, g.d, 0, 0, [], 0, []⟩
theorem putL_whole : ∀ (vs cs : List V) (pre : List V), cs.length = vs.length → putL (pre ++ cs) pre.length vs = pre ++ vs
 | [], cs, pre, h => by have : cs = [] := (List.eq_nil_of_length_eq_zero (by simpa using h)); subst this; simp [putL]
 | v :: vs, c :: cs, pre, h => by
   simp only [putL]
   have := putL_whole vs cs (pre ++ [v]) (by simpa using h)
   simp only [List.length_append, List.length_cons, List.length_nil, Nat.zero_add, List.append_assoc, List.cons_append, List.nil_append] at this
   rw [← this]
   congr 1
   simp
theorem putL_all {vs cs : List V} (h : cs.length = vs.length) : putL cs 0 vs = vs := by simpa using putL_whole vs cs [] h
section
variable (f : Font)
@[simp] theorem Font.vs_len : f.vs.length = 22 := by simp [Font.vs, Font.row, Params.list]
@[simp] theorem Font.vs_flat : f.vs.all V.one = true := by simp [Font.vs, V.one]
@[simp] theorem Font.vs_take : f.vs.take 22 = f.vs := List.take_of_length_le (by simp)
@[simp] theorem Font.vs_0 : f.vs[0]? = some (.c (glyphsC f.glyphs)) := rfl
@[simp] theorem Font.vg_0 (h : 0 < f.vs.length) : f.vs[0]'h = .c (glyphsC f.glyphs) := rfl
@[simp] theorem Font.vs_1 : f.vs[1]? = some (.c (stretchesC f.stretches)) := rfl
@[simp] theorem Font.vg_1 (h : 1 < f.vs.length) : f.vs[1]'h = .c (stretchesC f.stretches) := rfl
@[simp] theorem Font.vs_2 : f.vs[2]? = some (.c (.int .i64 f.params.quad)) := rfl
@[simp] theorem Font.vg_2 (h : 2 < f.vs.length) : f.vs[2]'h = .c (.int .i64 f.params.quad) := rfl
@[simp] theorem Font.vs_3 : f.vs[3]? = some (.c (.int .i64 f.params.xHeight)) := rfl
@[simp] theorem Font.vg_3 (h : 3 < f.vs.length) : f.vs[3]'h = .c (.int .i64 f.params.xHeight) := rfl
@[simp] theorem Font.vs_4 : f.vs[4]? = some (.c (.int .i64 f.params.axis)) := rfl
@[simp] theorem Font.vg_4 (h : 4 < f.vs.length) : f.vs[4]'h = .c (.int .i64 f.params.axis) := rfl
@[simp] theorem Font.vs_5 : f.vs[5]? = some (.c (.int .i64 f.params.rule)) := rfl
@[simp] theorem Font.vg_5 (h : 5 < f.vs.length) : f.vs[5]'h = .c (.int .i64 f.params.rule) := rfl
@[simp] theorem Font.vs_19 : f.vs[19]? = some (.c (.int .i64 f.params.delimPercent)) := rfl
@[simp] theorem Font.vg_19 (h : 19 < f.vs.length) : f.vs[19]'h = .c (.int .i64 f.params.delimPercent) := rfl
@[simp] theorem Font.vs_20 : f.vs[20]? = some (.c (.int .i64 f.params.delimShort)) := rfl
@[simp] theorem Font.vg_20 (h : 20 < f.vs.length) : f.vs[20]'h = .c (.int .i64 f.params.delimShort) := rfl
theorem pubs_c : ∀ l : List C, V.pubs (l.map V.c) = some (l.map V.c)
 | [] => rfl
 | c :: l => by simp [V.pubs, V.pub, pubs_c l]
@[simp] theorem Font.vs_pubs : V.pubs f.vs = some f.vs := pubs_c f.row
theorem toCs_c : ∀ l : List C, toCs (l.map V.c) = some l
 | [] => rfl
 | c :: l => by simp [toCs, toC, toCs_c l]
@[simp] theorem Font.vs_toCs : toCs f.vs = some f.row := toCs_c f.row
end
end Go.Proofs.YthbcljjpmdfflaaGreat
namespace Go.Proofs.YthbcljjpmdfflaaGreat
open Go.RowKit
set_option linter.unusedSimpArgs false
set_option linter.unusedVariables false
set_option maxRecDepth 100000
theorem lvalid_a (n : Int) : AC Tryz.prog 47 [.c (.int .i64 n)] (.c (.bool (lenValid n))) := by
 by_cases h1 : -1073741824 ≤ n
 · refine en Tryz.func47 Tryz.ntmps47 ?_
   refine go @h1 ?_
   simp [aRet, ares, aresL, ares1, V.pub, V.pubs, ldV, Tryz.results47, lenValid, h1]
 · refine en Tryz.func47 Tryz.ntmps47 ?_
   refine go @h1 ?_
   simp [aRet, ares, aresL, ares1, V.pub, V.pubs, ldV, Tryz.results47, lenValid, h1]
theorem quotient_a (a b : Int) (ha : -9000000000000000000 ≤ a) (ha' : a ≤ 9000000000000000000) (hb : b = 100 ∨ b = 2) : AC Tryz.prog 68 [.c (.int .i64 a), .c (.int .i64 b)] (.c (.int .i64 (quot a b))) := by
 have h1 := Int.mul_tdiv_add_tmod a b
 have hm1 : -b < a.tmod b ∧ a.tmod b < b := by
  rcases hb with rfl | rfl
  · exact ⟨by have := Int.lt_tmod_of_pos a (b := 100) (by omega); omega, Int.tmod_lt_of_pos a (by omega)⟩
  · exact ⟨by have := Int.lt_tmod_of_pos a (b := 2) (by omega); omega, Int.tmod_lt_of_pos a (by omega)⟩
 have hb0 : ¬ b < 0 := by omega
 have hb1 : ¬ b = 0 := by omega
 obtain ⟨q, hq⟩ : ∃ q, a.tdiv b = q := ⟨_, rfl⟩
 obtain ⟨r, hr⟩ : ∃ r, a.tmod b = r := ⟨_, rfl⟩
 have hQ : quot a b = if 0 ≤ r ∧ b - r ≤ r then q + 1 else if r < 0 ∧ b + r ≤ -r then q - 1 else q := by unfold quot; rw [hq, hr]
 rw [hq, hr] at h1
 rw [hr] at hm1
 have hqb : -9000000000000000001 ≤ q ∧ q ≤ 9000000000000000001 := by rcases hb with rfl | rfl <;> omega
 have w1 : IntKind.i64.wrap q = q := wrap_i64 (by omega) (by omega)
 have w2 : IntKind.i64.wrap r = r := wrap_i64 (by omega) (by omega)
 have w3 : IntKind.i64.wrap (b - r) = b - r := wrap_i64 (by omega) (by omega)
 have w4 : IntKind.i64.wrap (b + r) = b + r := wrap_i64 (by omega) (by omega)
 have w5 : IntKind.i64.wrap (-r) = -r := wrap_i64 (by omega) (by omega)
 have w6 : IntKind.i64.wrap (q + 1) = q + 1 := wrap_i64 (by omega) (by omega)
 have w7 : IntKind.i64.wrap (q - 1) = q - 1 := wrap_i64 (by omega) (by omega)
 rw [hQ]
 clear hQ h1
 by_cases c1 : 0 ≤ r
 · by_cases c2 : b - r ≤ r
   · refine en Tryz.func68 Tryz.ntmps68 ?_
     refine go (cj @hb0 <| cj @hb1 <| cj @hq <| cj @hr <| cj @w1 <| cj @w2 <| cj @w3 <| cj @w6 <| cj @c1 <| @c2) ?_
     simp [aRet, ares, aresL, ares1, V.pub, V.pubs, ldV, Tryz.results68, c1, c2]
   · have c3 : ¬ r < 0 := by omega
     refine en Tryz.func68 Tryz.ntmps68 ?_
     refine go (cj @hb0 <| cj @hb1 <| cj @hq <| cj @hr <| cj @w1 <| cj @w2 <| cj @w3 <| cj @w6 <| cj @c1 <| cj @c2 <| @c3) ?_
     simp [aRet, ares, aresL, ares1, V.pub, V.pubs, ldV, Tryz.results68, c1, c2, c3]
 · have c3 : r < 0 := by omega
   by_cases c2 : b + r ≤ -r
   · refine en Tryz.func68 Tryz.ntmps68 ?_
     refine go (cj @hb0 <| cj @hb1 <| cj @hq <| cj @hr <| cj @w1 <| cj @w2 <| cj @w4 <| cj @w5 <| cj @w7 <| cj @c1 <| cj @c2 <| @c3) ?_
     simp [aRet, ares, aresL, ares1, V.pub, V.pubs, ldV, Tryz.results68, c1, c2, c3]
   · refine en Tryz.func68 Tryz.ntmps68 ?_
     refine go (cj @hb0 <| cj @hb1 <| cj @hq <| cj @hr <| cj @w1 <| cj @w2 <| cj @w4 <| cj @w5 <| cj @w7 <| cj @c1 <| cj @c2 <| @c3) ?_
     simp [aRet, ares, aresL, ares1, V.pub, V.pubs, ldV, Tryz.results68, c1, c2, c3]
theorem scale_a (n p : Int) : AC Tryz.prog 33 [.c (.int .i64 n), .c (.int .i64 p)] (.c (.int .i64 (scale n p))) := by
 cases hv : lenValid n with
 | false =>
   have hs : scale n p = 0 := by simp [scale, hv]
   refine en Tryz.func33 Tryz.ntmps33 ?_
   refine go0 ?_
   refine gc @hv (lvalid_a n) Tryz.func47 ?_
   refine go @hv ?_
   simp [aRet, ares, aresL, ares1, V.pub, V.pubs, ldV, Tryz.results33, hs]
 | true =>
   have hv' := hv
   simp [lenValid] at hv'
   by_cases h1 : p < 0
   · have hs : scale n p = 0 := by unfold scale; rw [if_neg]; omega
     refine en Tryz.func33 Tryz.ntmps33 ?_
     refine go0 ?_
     refine gc (cj @hv <| @h1) (lvalid_a n) Tryz.func47 ?_
     refine go @hv ?_
     simp [aRet, ares, aresL, ares1, V.pub, V.pubs, ldV, Tryz.results33, hs]
   · by_cases h2 : 10000 < p
     · have hs : scale n p = 0 := by unfold scale; rw [if_neg]; omega
       refine en Tryz.func33 Tryz.ntmps33 ?_
       refine go0 ?_
       refine gc (cj @hv <| cj @h1 <| @h2) (lvalid_a n) Tryz.func47 ?_
       refine go @hv ?_
       simp [aRet, ares, aresL, ares1, V.pub, V.pubs, ldV, Tryz.results33, hs]
     · have hs : scale n p = quot (n * p) 100 := by rw [quot_100]; unfold scale; rw [if_pos ⟨hv, by omega, by omega⟩]
       have hb := mul_bound n p 1073741824 10000 (by omega) (by omega) (by omega) (by omega)
       have hw : IntKind.i64.wrap (n * p) = n * p := wrap_i64 (by omega) (by omega)
       refine en Tryz.func33 Tryz.ntmps33 ?_
       refine go0 ?_
       refine gc (cj @hv <| cj @h1 <| @h2) (lvalid_a n) Tryz.func47 ?_
       refine go (cj @hv <| @hw) ?_
       refine gc0 (quotient_a (n * p) 100 (by omega) (by omega) (.inl rfl)) Tryz.func68 ?_
       refine go0 ?_
       simp [aRet, ares, aresL, ares1, V.pub, V.pubs, ldV, Tryz.results33, hs]
end Go.Proofs.YthbcljjpmdfflaaGreat
namespace Go.Proofs.YthbcljjpmdfflaaGreat
open Go.RowKit
set_option linter.unusedSimpArgs false
set_option linter.unusedVariables false
set_option maxRecDepth 100000
def foundV (o : Option Glyph) : V := .tup [.agg ((o.getD Glyph.zero).row.map V.c), .c (.bool o.isSome)]
theorem find_a (f : Font) (name : ByteArray) (hl : f.glyphs.length ≤ maxLen) : AC Tryz.prog 111 [.agg f.vs, .c (.str name)] (foundV (f.find name)) := by
 unfold maxLen at hl
 refine en Tryz.func111 Tryz.ntmps111 ?_
 refine go @glyphsC.eq_1 ?_
 refine lp (ι := { k : Nat // k ≤ f.glyphs.length ∧ f.find name = findO name (f.glyphs.drop k) }) (fun k => [(10, .c (.int .i64 (k.1 : Int))), (5, .c (.bool false))]) (fun _ => [.box 27 f.vs false, .box 57 (Glyph.zero.row.map V.c) false]) (fun k => f.glyphs.length - k.1) ⟨0, by simp [Font.find]⟩ ?_ ?_
 all_goals simp only [puts, List.foldl_cons, List.foldl_nil, List.set_cons_zero, List.set_cons_succ]
 · refine Le.weak (by simp [subT, Glyph.zero, Glyph.row])
 · rintro ⟨k, hk, hI⟩
   by_cases hlt : k < f.glyphs.length
   · obtain ⟨g, hg⟩ : ∃ g, f.glyphs[k] = g := ⟨_, rfl⟩
     rw [List.drop_eq_getElem_cons hlt, hg] at hI
     by_cases he : g.name = name
     · have hF : f.find name = some g := by rw [hI]; simp [findO, he]
       refine go (cj @hlt <| cj @hg <| cj @he <| cj @glyphsC.eq_1 <| @Glyph.row.eq_1) ?_
       simp [aRet, ares, aresL, ares1, V.pub, V.pubs, ldV, Tryz.results111, foundV, hF, Glyph.row, he]
     · have hw : IntKind.i64.wrap ((k : Int) + 1) = ((k + 1 : Nat) : Int) := by rw [wrap_i64 (by omega) (by omega)]; simp
       refine go (cj @hlt <| cj @hg <| cj @he <| cj @glyphsC.eq_1 <| cj @Glyph.row.eq_1 <| @hw) ?_
       refine ⟨⟨k + 1, by omega, by rw [hI]; simp [findO, he]⟩, by simp only; omega, ?_⟩
       refine Le.weak (by simp [subT, Glyph.zero, Glyph.row])
   · have hF : f.find name = none := by rw [hI, List.drop_of_length_le (by omega)]; rfl
     refine go (cj @hlt <| cj @Glyph.zero.eq_1 <| @Glyph.row.eq_1) ?_
     simp [aRet, ares, aresL, ares1, V.pub, V.pubs, ldV, Tryz.results111, foundV, hF, Glyph.zero, Glyph.row]
end Go.Proofs.YthbcljjpmdfflaaGreat
namespace Go.Proofs.YthbcljjpmdfflaaGreat
open Go.RowKit
set_option linter.unusedSimpArgs false
set_option linter.unusedVariables false
set_option maxRecDepth 100000
theorem rfind_a (f : Font) (name : ByteArray) (hl : f.glyphs.length ≤ maxLen) : AC Tryz.prog 75 [.agg f.vs, .c (.str name)] (foundV (f.find name)) := by
 unfold maxLen at hl
 refine en Tryz.func75 Tryz.ntmps75 ?_
 refine go @glyphsC.eq_1 ?_
 refine lp (ι := { k : Nat // k ≤ f.glyphs.length ∧ f.find name = findO name (f.glyphs.drop k) }) (fun k => [(6, .c (.int .i64 (k.1 : Int))), (5, .c (.bool false))]) (fun _ => [.box 27 f.vs false, .box 57 (Glyph.zero.row.map V.c) false]) (fun k => f.glyphs.length - k.1) ⟨0, by simp [Font.find]⟩ ?_ ?_
 all_goals simp only [puts, List.foldl_cons, List.foldl_nil, List.set_cons_zero, List.set_cons_succ]
 · refine Le.weak (by simp [subT, Glyph.zero, Glyph.row])
 · rintro ⟨k, hk, hI⟩
   by_cases hlt : k < f.glyphs.length
   · obtain ⟨g, hg⟩ : ∃ g, f.glyphs[k] = g := ⟨_, rfl⟩
     rw [List.drop_eq_getElem_cons hlt, hg] at hI
     by_cases he : g.name = name
     · have hF : f.find name = some g := by rw [hI]; simp [findO, he]
       refine go (cj @hlt <| cj @hg <| cj @he <| cj @glyphsC.eq_1 <| @Glyph.row.eq_1) ?_
       simp [aRet, ares, aresL, ares1, V.pub, V.pubs, ldV, Tryz.results75, foundV, hF, Glyph.row, he]
     · have hw : IntKind.i64.wrap ((k : Int) + 1) = ((k + 1 : Nat) : Int) := by rw [wrap_i64 (by omega) (by omega)]; simp
       refine go (cj @hlt <| cj @hg <| cj @he <| cj @glyphsC.eq_1 <| cj @Glyph.row.eq_1 <| @hw) ?_
       refine ⟨⟨k + 1, by omega, by rw [hI]; simp [findO, he]⟩, by simp only; omega, ?_⟩
       refine Le.weak (by simp [subT, Glyph.zero, Glyph.row])
   · have hF : f.find name = none := by rw [hI, List.drop_of_length_le (by omega)]; rfl
     refine go (cj @hlt <| cj @Glyph.zero.eq_1 <| cj @Glyph.row.eq_1 <| @glyphsC.eq_1) ?_
     simp [aRet, ares, aresL, ares1, V.pub, V.pubs, ldV, Tryz.results75, foundV, hF, Glyph.zero, Glyph.row]
theorem pick_a (f : Font) (name : ByteArray) (hl : f.glyphs.length ≤ maxLen) : AC Tryz.prog 104 [.agg f.vs, .c (.str name)] (glyphV (f.pick name)) := by
 refine en Tryz.func104 Tryz.ntmps104 ?_
 refine go0 ?_
 refine gc (cj @foundV.eq_1 <| @Glyph.row.eq_1) (find_a f name hl) Tryz.func111 ?_
 cases hf : f.find name with
 | some g =>
   refine go @Glyph.row.eq_1 ?_
   simp [aRet, ares, aresL, ares1, V.pub, V.pubs, ldV, Tryz.results104, glyphV, Font.pick, hf, Glyph.row]
 | none =>
   refine go (cj @Glyph.zero.eq_1 <| @Glyph.row.eq_1) ?_
   refine gc (cj @foundV.eq_1 <| @Glyph.row.eq_1) (find_a f ⟨#[63]⟩ hl) Tryz.func111 ?_
   cases hq : f.find ⟨#[63]⟩ with
   | some g =>
     refine go @Glyph.row.eq_1 ?_
     simp [aRet, ares, aresL, ares1, V.pub, V.pubs, ldV, Tryz.results104, glyphV, Font.pick, hf, hq, Glyph.row]
   | none =>
     refine go (cj @Glyph.zero.eq_1 <| @Glyph.row.eq_1) ?_
     simp [aRet, ares, aresL, ares1, V.pub, V.pubs, ldV, Tryz.results104, glyphV, Font.pick, hf, hq, Glyph.zero, Glyph.row]
theorem rpick_a (f : Font) (name : ByteArray) (hl : f.glyphs.length ≤ maxLen) : AC Tryz.prog 115 [.agg f.vs, .c (.str name)] (glyphV (f.pick name)) := by
 refine en Tryz.func115 Tryz.ntmps115 ?_
 refine go0 ?_
 refine gc (cj @foundV.eq_1 <| @Glyph.row.eq_1) (rfind_a f name hl) Tryz.func75 ?_
 cases hf : f.find name with
 | some g =>
   refine go @Glyph.row.eq_1 ?_
   simp [aRet, ares, aresL, ares1, V.pub, V.pubs, ldV, Tryz.results115, glyphV, Font.pick, hf, Glyph.row]
 | none =>
   refine go (cj @Glyph.zero.eq_1 <| @Glyph.row.eq_1) ?_
   refine gc (cj @foundV.eq_1 <| @Glyph.row.eq_1) (rfind_a f ⟨#[63]⟩ hl) Tryz.func75 ?_
   cases hq : f.find ⟨#[63]⟩ with
   | some g =>
     refine go @Glyph.row.eq_1 ?_
     simp [aRet, ares, aresL, ares1, V.pub, V.pubs, ldV, Tryz.results115, glyphV, Font.pick, hf, hq, Glyph.row]
   | none =>
     refine go (cj @Glyph.zero.eq_1 <| @Glyph.row.eq_1) ?_
     simp [aRet, ares, aresL, ares1, V.pub, V.pubs, ldV, Tryz.results115, glyphV, Font.pick, hf, hq, Glyph.zero, Glyph.row]
end Go.Proofs.YthbcljjpmdfflaaGreat
namespace Go.Proofs.YthbcljjpmdfflaaGreat
open Go.RowKit
set_option linter.unusedSimpArgs false
set_option linter.unusedVariables false
set_option maxRecDepth 100000
theorem within_a (lo hi : Int) (l : List Int) (hl : l.length ≤ maxLen) : AC Tryz.prog 40 [.c (.int .i64 lo), .c (.int .i64 hi), .c (intsC l)] (.c (.bool (inB lo hi l))) := by
 unfold maxLen at hl
 refine en Tryz.func40 Tryz.ntmps40 ?_
 refine go @intsC.eq_1 ?_
 refine lp (ι := { k : Nat // k ≤ l.length ∧ inB lo hi l = inB lo hi (l.drop k) }) (fun k => [(11, .c (.int .i64 (k.1 : Int))), (6, .c (.bool false))]) (fun _ => []) (fun k => l.length - k.1) ⟨0, by simp⟩ ?_ ?_
 all_goals simp only [puts, List.foldl_cons, List.foldl_nil, List.set_cons_zero, List.set_cons_succ]
 · refine Le.weak (by simp [subT])
 · rintro ⟨k, hk, hI⟩
   by_cases hlt : k < l.length
   · obtain ⟨n, hn⟩ : ∃ n, l[k] = n := ⟨_, rfl⟩
     rw [List.drop_eq_getElem_cons hlt, hn] at hI
     by_cases h1 : n < lo
     · have e : inB lo hi l = false := by rw [hI]; simp [inB]; omega
       refine go (cj @hlt <| cj @hn <| cj @h1 <| @intsC.eq_1) ?_
       simp [aRet, ares, aresL, ares1, V.pub, V.pubs, ldV, Tryz.results40, e]
     · by_cases h2 : hi < n
       · have e : inB lo hi l = false := by rw [hI]; simp [inB]; omega
         refine go (cj @hlt <| cj @hn <| cj @h1 <| cj @h2 <| @intsC.eq_1) ?_
         simp [aRet, ares, aresL, ares1, V.pub, V.pubs, ldV, Tryz.results40, e]
       · have hw : IntKind.i64.wrap ((k : Int) + 1) = ((k + 1 : Nat) : Int) := by rw [wrap_i64 (by omega) (by omega)]; simp
         refine go (cj @hlt <| cj @hn <| cj @h1 <| cj @h2 <| cj @intsC.eq_1 <| @hw) ?_
         refine ⟨⟨k + 1, by omega, by rw [hI]; simp [inB]; omega⟩, by simp only; omega, ?_⟩
         refine Le.weak (by simp [subT])
   · have e : inB lo hi l = true := by rw [hI, List.drop_of_length_le (by omega)]; rfl
     refine go (cj @hlt <| @intsC.eq_1) ?_
     simp [aRet, ares, aresL, ares1, V.pub, V.pubs, ldV, Tryz.results40, e]
theorem rwithin_a (n lo hi : Int) : AC Tryz.prog 73 [.c (.int .i64 n), .c (.int .i64 lo), .c (.int .i64 hi)] (.c (.bool (inB lo hi [n]))) := by
 by_cases h1 : lo ≤ n
 · refine en Tryz.func73 Tryz.ntmps73 ?_
   refine go @h1 ?_
   simp [aRet, ares, aresL, ares1, V.pub, V.pubs, ldV, Tryz.results73, inB, h1]
 · refine en Tryz.func73 Tryz.ntmps73 ?_
   refine go @h1 ?_
   simp [aRet, ares, aresL, ares1, V.pub, V.pubs, ldV, Tryz.results73, inB, h1]
theorem metrics_a (g : Glyph) : AC Tryz.prog 74 [glyphV g] (.c (.bool (inB (-20000) 20000 g.mets))) := by
 unfold glyphV
 refine AC.intro Tryz.func74 rfl ?_
 simp only [Tryz.ntmps74, List.map_cons, List.map_nil, List.length_cons, List.length_nil, Nat.reduceAdd, Nat.reduceSub, List.replicate_succ, List.replicate_zero, List.cons_append, List.nil_append, Glyph.row]
 refine go0 ?_
 refine lp (ι := { k : Nat // k ≤ 5 ∧ inB (-20000) 20000 g.mets = inB (-20000) 20000 (g.mets.drop k) }) (fun k => [(4, .c (.int .i64 (k.1 : Int))), (2, .c (.bool false))]) (fun _ => [.box 57 (g.row.map V.c) false]) (fun k => 5 - k.1) ⟨0, by simp⟩ ?_ ?_
 all_goals simp only [puts, List.foldl_cons, List.foldl_nil, List.set_cons_zero, List.set_cons_succ]
 · refine Le.weak (by simp [subT, Glyph.row])
 · rintro ⟨k, hk, hI⟩
   by_cases hlt : k < 5
   · have hll : g.mets.length = 5 := rfl
     obtain ⟨n, hn⟩ : ∃ n, g.mets[k]'(by rw [hll]; exact hlt) = n := ⟨_, rfl⟩
     rw [List.drop_eq_getElem_cons (by rw [hll]; exact hlt), hn] at hI
     have hrow : ([[C.int IntKind.i64 g.w], [C.int IntKind.i64 g.h], [C.int IntKind.i64 g.d], [C.int IntKind.i64 g.italic], [C.int IntKind.i64 g.attach]] : List (List C))[k]? = some [.int .i64 n] := by
      have e : ([[C.int IntKind.i64 g.w], [C.int IntKind.i64 g.h], [C.int IntKind.i64 g.d], [C.int IntKind.i64 g.italic], [C.int IntKind.i64 g.attach]] : List (List C)) = g.mets.map fun n => [C.int .i64 n] := rfl
      rw [e, List.getElem?_map, List.getElem?_eq_getElem (by rw [hll]; exact hlt), hn]
      rfl
     have hlt' : (k : Int) < 5 := by omega
     refine go (cj @hlt' <| @hrow) ?_
     refine gc0 (rwithin_a n (-20000) 20000) Tryz.func73 ?_
     cases hb : inB (-20000) 20000 [n] with
     | false =>
       have e : inB (-20000) 20000 g.mets = false := by rw [hI]; simp [inB] at hb ⊢; omega
       refine go @hb ?_
       simp [aRet, ares, aresL, ares1, V.pub, V.pubs, ldV, Tryz.results74, e]
     | true =>
       have hw : IntKind.i64.wrap ((k : Int) + 1) = ((k + 1 : Nat) : Int) := by rw [wrap_i64 (by omega) (by omega)]; simp
       refine go (cj @hb <| @hw) ?_
       refine ⟨⟨k + 1, by omega, by rw [hI]; simp [inB] at hb ⊢; omega⟩, by simp only; omega, ?_⟩
       refine Le.weak (by simp [subT, Glyph.row])
   · have e : inB (-20000) 20000 g.mets = true := by rw [hI, List.drop_of_length_le (by show 5 ≤ k; omega)]; rfl
     have hlt' : ¬ (k : Int) < 5 := by omega
     refine go @hlt' ?_
     simp [aRet, ares, aresL, ares1, V.pub, V.pubs, ldV, Tryz.results74, e]
theorem rscale_nn (n p : Int) (h1 : 0 ≤ n) (h2 : n ≤ 1099511627776) (h3 : 0 ≤ p) (h4 : p ≤ 10000) : AC Tryz.prog 97 [.c (.int .i64 n), .c (.int .i64 p)] (.c (.int .i64 (rnd (n * p) 100))) := by
 have hb := mul_bound n p 1099511627776 10000 (by omega) h2 h3 h4
 have hn : 0 ≤ n * p := Int.mul_nonneg h1 h3
 have hneg : ¬ n < 0 := by omega
 have w1 : IntKind.i64.wrap (2 * n) = 2 * n := wrap_i64 (by omega) (by omega)
 have w2 : IntKind.i64.wrap (2 * n * p) = 2 * n * p := wrap_i64 (by rw [Int.mul_assoc]; omega) (by rw [Int.mul_assoc]; omega)
 have w3 : IntKind.i64.wrap (2 * n * p + 100) = 2 * n * p + 100 := wrap_i64 (by rw [Int.mul_assoc]; omega) (by rw [Int.mul_assoc]; omega)
 have e : rnd (n * p) 100 = (2 * n * p + 100).tdiv 200 := by
  unfold rnd
  rw [if_pos hn, Int.tdiv_eq_ediv_of_nonneg (by rw [Int.mul_assoc]; omega), Int.mul_assoc]
  rfl
 have w4 : IntKind.i64.wrap ((2 * n * p + 100).tdiv 200) = rnd (n * p) 100 := by
  rw [← e]
  have := rnd_bound (n * p) 109951162777600 (by omega) (by omega)
  exact wrap_i64 (by omega) (by omega)
 refine en Tryz.func97 Tryz.ntmps97 ?_
 refine go (cj @hneg <| cj @w1 <| cj @w2 <| cj @w3 <| @w4) ?_
 simp [aRet, ares, aresL, ares1, V.pub, V.pubs, ldV, Tryz.results97]
theorem rnd_neg (a : Int) : rnd (-a) 100 = -rnd a 100 := by
 unfold rnd
 split <;> split <;> omega
theorem rscale_a (n p : Int) (h1 : -1099511627776 ≤ n) (h2 : n ≤ 1099511627776) (h3 : 0 ≤ p) (h4 : p ≤ 10000) : AC Tryz.prog 97 [.c (.int .i64 n), .c (.int .i64 p)] (.c (.int .i64 (rnd (n * p) 100))) := by
 by_cases hneg : n < 0
 · have hb := mul_bound n p 1099511627776 10000 h1 h2 h3 h4
   have w1 : IntKind.i64.wrap (-n) = -n := wrap_i64 (by omega) (by omega)
   have hr := rnd_bound (n * p) 109951162777600 (by omega) (by omega)
   have w2 : IntKind.i64.wrap (rnd (n * p) 100) = rnd (n * p) 100 := wrap_i64 (by omega) (by omega)
   have e : rnd (-n * p) 100 = -rnd (n * p) 100 := by rw [Int.neg_mul, rnd_neg]
   refine en Tryz.func97 Tryz.ntmps97 ?_
   refine go (cj @hneg <| @w1) ?_
   refine gc (cj @e <| @w2) (rscale_nn (-n) p (by omega) (by omega) h3 h4) Tryz.func97 ?_
   refine go0 ?_
   simp [aRet, ares, aresL, ares1, V.pub, V.pubs, ldV, Tryz.results97]
 · exact rscale_nn n p (by omega) h2 h3 h4
end Go.Proofs.YthbcljjpmdfflaaGreat
namespace Go.Proofs.YthbcljjpmdfflaaGreat
open Go.RowKit
set_option linter.unusedSimpArgs false
set_option linter.unusedVariables false
set_option maxRecDepth 100000
theorem fheight_a (g : Glyph) : AC Tryz.prog 105 [glyphV g] (.c (.int .i64 (IntKind.i64.wrap (g.h + g.d)))) := by
 unfold glyphV
 refine AC.intro Tryz.func105 rfl ?_
 simp only [Tryz.ntmps105, List.map_cons, List.map_nil, List.length_cons, List.length_nil, Nat.reduceAdd, Nat.reduceSub, List.replicate_succ, List.replicate_zero, List.cons_append, List.nil_append, Glyph.row]
 refine go0 ?_
 simp [aRet, ares, aresL, ares1, V.pub, V.pubs, ldV, Tryz.results105]
theorem rheight_a (g : Glyph) : AC Tryz.prog 76 [glyphV g] (.c (.int .i64 (IntKind.i64.wrap (g.h + g.d)))) := by
 unfold glyphV
 refine AC.intro Tryz.func76 rfl ?_
 simp only [Tryz.ntmps76, List.map_cons, List.map_nil, List.length_cons, List.length_nil, Nat.reduceAdd, Nat.reduceSub, List.replicate_succ, List.replicate_zero, List.cons_append, List.nil_append, Glyph.row]
 refine go0 ?_
 simp [aRet, ares, aresL, ares1, V.pub, V.pubs, ldV, Tryz.results76]
theorem scaled1_a (n p : Int) : AC Tryz.prog 110 [.c (.int .i64 n), .cp [.int .i64 p] 0] (.c (.int .i64 (scale n p))) := by
 refine en Tryz.func110 Tryz.ntmps110 ?_
 refine go0 ?_
 refine gc0 (scale_a n p) Tryz.func33 ?_
 refine go0 ?_
 simp [aRet, ares, aresL, ares1, V.pub, V.pubs, ldV, Tryz.results110]
def scaledV (q : Glyph × Int) : V := .tup [glyphV q.1, errV q.2]
theorem scaled_a (g : Glyph) (p : Int) : AC Tryz.prog 103 [glyphV g, .c (.int .i64 p)] (scaledV (scaledR g p)) := by
 unfold glyphV
 refine AC.intro Tryz.func103 rfl ?_
 simp only [Tryz.ntmps103, List.map_cons, List.map_nil, List.length_cons, List.length_nil, Nat.reduceAdd, Nat.reduceSub, List.replicate_succ, List.replicate_zero, List.cons_append, List.nil_append, Glyph.row]
 with_reducible refine AW.seq ?_
 with_reducible refine AW.region ?_
 with_reducible refine aops_run (by simp [List.replicate_succ]; first | exact rfl | exact ⟨rfl, rfl⟩) ?_
 with_reducible refine aops_done ?_
 with_reducible refine aThen_n ?_
 refine AW.frz 1 rfl (by simp [toCs, toC]; exact rfl) (by simp [V.frzs, V.frz]; exact rfl) (by simp [O.frz, V.frzs, V.frz]; exact rfl) ?_
 refine go0 ?_
 refine gc @intsC.eq_1 (within_a 1 1000 [p] (by simp [maxLen])) Tryz.func40 ?_
 cases h1 : inB 1 1000 [p] with
 | false =>
   refine go0 ?_
   simp [aRet, ares, aresL, ares1, V.pub, V.pubs, ldV, Tryz.results103, scaledV, glyphV, errV, scaledR, h1, Glyph.zero, Glyph.row]
 | true =>
   refine go0 ?_
   refine gc (cj @intsC.eq_1 <| @Glyph.mets.eq_1) (within_a (-20000) 20000 g.mets (by simp [maxLen, Glyph.mets])) Tryz.func40 ?_
   cases h2 : inB (-20000) 20000 g.mets with
   | false =>
     have h2' := h2
     simp only [Glyph.mets] at h2'
     refine go @h2' ?_
     simp [aRet, ares, aresL, ares1, V.pub, V.pubs, ldV, Tryz.results103, scaledV, glyphV, errV, scaledR, h1, h2, Glyph.zero, Glyph.row]
   | true =>
     have h2' := h2
     simp only [Glyph.mets] at h2'
     refine go @h2' ?_
     refine gc0 (scaled1_a g.w p) Tryz.func110 ?_
     refine gc0 (scaled1_a g.h p) Tryz.func110 ?_
     refine gc0 (scaled1_a g.d p) Tryz.func110 ?_
     refine gc0 (scaled1_a g.italic p) Tryz.func110 ?_
     refine gc0 (scaled1_a g.attach p) Tryz.func110 ?_
     refine go0 ?_
     simp [aRet, ares, aresL, ares1, V.pub, V.pubs, ldV, Tryz.results103, scaledV, glyphV, errV, scaledR, h1, h2, Glyph.scaled, Glyph.row]
theorem scale_rnd {n p : Int} (h1 : -20000 ≤ n) (h2 : n ≤ 20000) (h3 : 1 ≤ p) (h4 : p ≤ 1000) : rnd (n * p) 100 = scale n p := by
 unfold scale
 rw [if_pos ⟨by simp [lenValid]; omega, by omega, by omega⟩]
theorem rscale_s {n p : Int} (h1 : -20000 ≤ n) (h2 : n ≤ 20000) (h3 : 1 ≤ p) (h4 : p ≤ 1000) : AC Tryz.prog 97 [.c (.int .i64 n), .c (.int .i64 p)] (.c (.int .i64 (scale n p))) := by
 rw [← scale_rnd h1 h2 h3 h4]
 exact rscale_a n p (by omega) (by omega) (by omega) (by omega)
theorem rscaled_a (g : Glyph) (p : Int) : AC Tryz.prog 114 [glyphV g, .c (.int .i64 p)] (scaledV (scaledR g p)) := by
 have hgv : glyphV g = .agg (g.row.map V.c) := rfl
 cases h1 : inB 1 1000 [p] with
 | false =>
   rw [hgv]
   refine AC.intro Tryz.func114 rfl ?_
   simp only [Tryz.ntmps114, List.map_cons, List.map_nil, List.length_cons, List.length_nil, Nat.reduceAdd, Nat.reduceSub, List.replicate_succ, List.replicate_zero, List.cons_append, List.nil_append, Glyph.row]
   refine go0 ?_
   refine gc @h1 (rwithin_a p 1 1000) Tryz.func73 ?_
   refine go0 ?_
   simp [aRet, ares, aresL, ares1, V.pub, V.pubs, ldV, Tryz.results114, scaledV, glyphV, errV, scaledR, h1, Glyph.zero, Glyph.row]
 | true =>
   cases h2 : inB (-20000) 20000 g.mets with
   | false =>
     rw [hgv]
     refine AC.intro Tryz.func114 rfl ?_
     simp only [Tryz.ntmps114, List.map_cons, List.map_nil, List.length_cons, List.length_nil, Nat.reduceAdd, Nat.reduceSub, List.replicate_succ, List.replicate_zero, List.cons_append, List.nil_append, Glyph.row]
     refine go0 ?_
     refine gc @h1 (rwithin_a p 1 1000) Tryz.func73 ?_
     refine go0 ?_
     refine gc (cj @h2 <| cj @glyphV.eq_1 <| @Glyph.row.eq_1) (metrics_a g) Tryz.func74 ?_
     refine go0 ?_
     simp [aRet, ares, aresL, ares1, V.pub, V.pubs, ldV, Tryz.results114, scaledV, glyphV, errV, scaledR, h1, h2, Glyph.zero, Glyph.row]
   | true =>
     have b1 := h1
     have b2 := h2
     simp [inB, Glyph.mets] at b1 b2
     rw [hgv]
     refine AC.intro Tryz.func114 rfl ?_
     simp only [Tryz.ntmps114, List.map_cons, List.map_nil, List.length_cons, List.length_nil, Nat.reduceAdd, Nat.reduceSub, List.replicate_succ, List.replicate_zero, List.cons_append, List.nil_append, Glyph.row]
     refine go0 ?_
     refine gc @h1 (rwithin_a p 1 1000) Tryz.func73 ?_
     refine go0 ?_
     refine gc (cj @h2 <| cj @glyphV.eq_1 <| @Glyph.row.eq_1) (metrics_a g) Tryz.func74 ?_
     refine go0 ?_
     refine gc0 (rscale_s (n := g.w) (p := p) (by omega) (by omega) (by omega) (by omega)) Tryz.func97 ?_
     refine gc0 (rscale_s (n := g.h) (p := p) (by omega) (by omega) (by omega) (by omega)) Tryz.func97 ?_
     refine gc0 (rscale_s (n := g.d) (p := p) (by omega) (by omega) (by omega) (by omega)) Tryz.func97 ?_
     refine gc0 (rscale_s (n := g.italic) (p := p) (by omega) (by omega) (by omega) (by omega)) Tryz.func97 ?_
     refine gc0 (rscale_s (n := g.attach) (p := p) (by omega) (by omega) (by omega) (by omega)) Tryz.func97 ?_
     refine go0 ?_
     simp [aRet, ares, aresL, ares1, V.pub, V.pubs, ldV, Tryz.results114, scaledV, glyphV, errV, scaledR, h1, h2, Glyph.scaled, Glyph.row]
def sizedR (f : Font) (name : ByteArray) (p : Int) : Box × Int :=
 if (scaledR (f.pick name) p).2 = 0 then (glyphBox (scaledR (f.pick name) p).1 p, 0) else (Box.zero, (scaledR (f.pick name) p).2)
def boxEV (q : Box × Int) : V := .tup [boxV q.1, errV q.2]
theorem sized_a (f : Font) (name : ByteArray) (p : Int) (hl : f.glyphs.length ≤ maxLen) : AC Tryz.prog 108 [.agg f.vs, .c (.str name), .c (.int .i64 p)] (boxEV (sizedR f name p)) := by
 have hR : sizedR f name p = if (scaledR (f.pick name) p).2 = 0 then (glyphBox (scaledR (f.pick name) p).1 p, 0) else (Box.zero, (scaledR (f.pick name) p).2) := rfl
 have hb : (scaledR (f.pick name) p).2 = 0 → (-200000 ≤ (scaledR (f.pick name) p).1.w ∧ (scaledR (f.pick name) p).1.w ≤ 200000) ∧ (-200000 ≤ (scaledR (f.pick name) p).1.italic ∧ (scaledR (f.pick name) p).1.italic ≤ 200000) := by
  intro h
  obtain ⟨h1, h2, h3⟩ := scaledR_ok _ _ h
  have := scaled_small _ _ h1 h2
  rw [h3]
  exact ⟨this.1, this.2.2.2⟩
 refine en Tryz.func108 Tryz.ntmps108 ?_
 refine go0 ?_
 refine gc (cj @glyphV.eq_1 <| @Glyph.row.eq_1) (rpick_a f name hl) Tryz.func115 ?_
 refine gc (cj @scaledV.eq_1 <| cj @glyphV.eq_1 <| cj @errV.eq_1 <| @Glyph.row.eq_1) (rscaled_a (f.pick name) p) Tryz.func114 ?_
 obtain ⟨q, hq⟩ : ∃ q, scaledR (f.pick name) p = q := ⟨_, rfl⟩
 rw [hq] at hR hb ⊢
 obtain ⟨g, er⟩ := q
 simp only at hR hb ⊢
 by_cases he : er = 0
 · obtain ⟨b1, b2⟩ := hb he
   have hw : IntKind.i64.wrap (g.w + if 0 < g.italic then g.italic else 0) = g.w + if 0 < g.italic then g.italic else 0 := by split <;> exact wrap_i64 (by omega) (by omega)
   refine go (cj @he <| @hw) ?_
   simp [aRet, ares, aresL, ares1, V.pub, V.pubs, ldV, Tryz.results108, boxEV, boxV, errV, hR, he, glyphBox, Box.row, Box.rows, intsC, mx]
 · refine go @he ?_
   simp [aRet, ares, aresL, ares1, V.pub, V.pubs, ldV, Tryz.results108, boxEV, boxV, errV, hR, he, Box.zero, Box.row, Box.rows, intsC]
end Go.Proofs.YthbcljjpmdfflaaGreat
namespace Go.Proofs.YthbcljjpmdfflaaGreat
open Go.RowKit
set_option linter.unusedSimpArgs false
set_option linter.unusedVariables false
set_option maxRecDepth 100000
section
variable {S : Area} {w : World}
theorem row_of {l : List C} {b off : Nat} (h : RdR S w l b off) : ∃ row : Array Value, RowAt w b off row ∧ RdL S w l row.toList ∧ row.size = l.length := by
 obtain ⟨vs, h1, h2, _⟩ := RdR.vals l b off h
 refine ⟨vs.toArray, fun j hj => ?_, by simpa using h1, by simpa using h1.len⟩
 have hj' : j < vs.length := by simpa using hj
 rw [h2 j vs[j] (List.getElem?_eq_getElem hj')]
 simp [hj']
theorem sl_conv {α : Type} (r : α → List C) (d : α → D) (h : ∀ x vs, RdL S w (r x) vs → Rd w (d x) vs) : ∀ (l : List α) (v : Value), RdC S w (.sl (l.map r)) v → Rd w (.sl (l.map d)) [v] := by
 have key : ∀ (l : List α) (b off : Nat), RdRs S w (l.map r) b off → RdS w (l.map d) b off := by
  intro l
  induction l with
  | nil => intro b off _; simp only [List.map_nil, RdS]
  | cons x l ih =>
    intro b off hx
    simp only [List.map_cons, RdRs] at hx
    obtain ⟨row, k1, k2, k3⟩ := row_of hx.1
    simp only [List.map_cons, RdS]
    exact ⟨row, k1, h x _ k2, by rw [k3]; exact ih b _ hx.2⟩
 intro l v hv
 simp only [RdC, List.length_map] at hv
 obtain ⟨A, c, rfl, h1, h2, h3⟩ := hv
 simp only [Rd, List.length_map]
 refine ⟨A, c, rfl, h1, h2, fun hne => ?_⟩
 obtain ⟨b, off, es, hA, _, hr⟩ := h3 (by intro e; apply hne; cases l with | nil => rfl | cons x l => simp at e)
 exact ⟨b, off, hA, key l b off hr⟩
theorem glyph_conv (g : Glyph) (vs : List Value) (h : RdL S w g.row vs) : Rd w g.ds vs := by
 simp only [Glyph.row, RdL, RdC] at h
 obtain ⟨v0, r0, rfl, ⟨rfl, h0⟩, v1, r1, rfl, ⟨rfl, h1⟩, v2, r2, rfl, ⟨rfl, h2⟩, v3, r3, rfl, ⟨rfl, h3⟩, v4, r4, rfl, ⟨rfl, h4⟩, v5, r5, rfl, ⟨rfl, h5⟩, rfl⟩ := h
 rw [rd_glyph]
 exact ⟨rfl, h0, i64_wf.1 h1, i64_wf.1 h2, i64_wf.1 h3, i64_wf.1 h4, i64_wf.1 h5⟩
theorem part_conv (p : Part) (vs : List Value) (h : RdL S w p.row vs) : Rd w p.ds vs := by
 simp only [Part.row, RdL, RdC] at h
 obtain ⟨v0, r0, rfl, ⟨rfl, h0⟩, v1, r1, rfl, rfl, rfl⟩ := h
 rw [rd_part]
 exact ⟨rfl, h0⟩
theorem stretch_conv (s : Stretch) (vs : List Value) (h : RdL S w s.row vs) : Rd w s.ds vs := by
 simp only [Stretch.row, RdL] at h
 obtain ⟨v0, r0, rfl, h0, v1, r1, rfl, h1, v2, r2, rfl, h2, v3, r3, rfl, h3, rfl⟩ := h
 simp only [RdC] at h0 h3
 obtain ⟨rfl, h0⟩ := h0
 obtain ⟨rfl, h3⟩ := h3
 rw [rd_stretch]
 exact ⟨v1, v2, rfl, h0, sl_conv (fun n => [.str n]) D.str (fun n vs h => by
  simp only [RdL, RdC] at h
  obtain ⟨v, r, rfl, ⟨rfl, hs⟩, rfl⟩ := h
  rw [rd_str]
  exact ⟨rfl, hs⟩) s.sizes v1 h1, sl_conv Part.row Part.ds part_conv s.parts v2 h2, i64_wf.1 h3⟩
theorem ints_conv : ∀ (l : List Int) (vs : List Value), RdL S w (l.map (C.int .i64)) vs → vs = l.map (Value.int .i64) ∧ ∀ n ∈ l, I64 n
 | [], vs, h => by simp only [List.map_nil, RdL] at h; exact ⟨h, by simp⟩
 | n :: l, vs, h => by
   simp only [List.map_cons, RdL, RdC] at h
   obtain ⟨v, r, rfl, ⟨rfl, hw⟩, h⟩ := h
   obtain ⟨rfl, h2⟩ := ints_conv l r h
   exact ⟨rfl, fun m hm => by rcases List.mem_cons.1 hm with rfl | hm; exact i64_wf.1 hw; exact h2 m hm⟩
theorem font_conv (f : Font) (vs : List Value) (h : RdL S w f.row vs) : Rd w f.ds vs := by
 simp only [Font.row, RdL] at h
 obtain ⟨v0, r0, rfl, h0, v1, r1, rfl, h1, h2⟩ := h
 obtain ⟨rfl, h3⟩ := ints_conv _ _ h2
 rw [rd_font]
 exact ⟨v0, v1, rfl, sl_conv Glyph.row Glyph.ds glyph_conv _ v0 h0, sl_conv Stretch.row Stretch.ds stretch_conv _ v1 h1, h3⟩
theorem CVs.toC {x : Cx} : ∀ (l : List C) (vs : List Value), CVs x w (l.map V.c) vs → RdL x.S w l vs
 | [], vs, h => by simpa only [List.map_nil, CVs, RdL] using h
 | c :: l, vs, h => by
   simp only [List.map_cons, CVs, CV] at h
   obtain ⟨v, r, rfl, h1, h2⟩ := h
   simp only [RdL]
   exact ⟨v, r, rfl, h1, CVs.toC l r h2⟩
end
theorem fvalid_a (f : Font) : AC Tryz.prog 17 [.agg f.vs] (.c (.bool f.valid)) := by
 intro S w us hS hus
 simp only [CVs, CV] at hus
 obtain ⟨u, ur, rfl, ⟨cs, rfl, hcs⟩, rfl⟩ := hus
 have hf : Rd w f.ds cs.toList := font_conv f _ (CVs.toC f.row _ hcs)
 refine (valid_c f cs w hf).mono ?_
 rintro r w' ⟨rfl, hk⟩
 exact ⟨_, S, rfl, hk, ⟨fun _ _ h => h, fun b j v _ hc => hk.cell hc⟩, fun b j h => .inl h, by simp only [CV, RdC]⟩
def fboxR (f : Font) (name : ByteArray) (p : Int) : Box × Int := if f.valid = true then sizedR f name p else (Box.zero, 1)
theorem fbox_a (f : Font) (name : ByteArray) (p : Int) (hl : f.glyphs.length ≤ maxLen) : AC Tryz.prog 82 [.agg f.vs, .c (.str name), .c (.int .i64 p)] (boxEV (fboxR f name p)) := by
 have hR : sizedR f name p = if (scaledR (f.pick name) p).2 = 0 then (glyphBox (scaledR (f.pick name) p).1 p, 0) else (Box.zero, (scaledR (f.pick name) p).2) := rfl
 have hb : (scaledR (f.pick name) p).2 = 0 → (-200000 ≤ (scaledR (f.pick name) p).1.w ∧ (scaledR (f.pick name) p).1.w ≤ 200000) ∧ (-200000 ≤ (scaledR (f.pick name) p).1.italic ∧ (scaledR (f.pick name) p).1.italic ≤ 200000) := by
  intro h
  obtain ⟨h1, h2, h3⟩ := scaledR_ok _ _ h
  have := scaled_small _ _ h1 h2
  rw [h3]
  exact ⟨this.1, this.2.2.2⟩
 cases hv : f.valid with
 | false =>
   refine en Tryz.func82 Tryz.ntmps82 ?_
   refine go0 ?_
   refine gc @hv (fvalid_a f) Tryz.func17 ?_
   refine go0 ?_
   simp [aRet, ares, aresL, ares1, V.pub, V.pubs, ldV, Tryz.results82, boxEV, boxV, errV, fboxR, hv, Box.zero, Box.row, Box.rows, intsC]
 | true =>
   refine en Tryz.func82 Tryz.ntmps82 ?_
   refine go0 ?_
   refine gc @hv (fvalid_a f) Tryz.func17 ?_
   refine go0 ?_
   refine gc (cj @glyphV.eq_1 <| @Glyph.row.eq_1) (pick_a f name hl) Tryz.func104 ?_
   refine gc (cj @scaledV.eq_1 <| cj @glyphV.eq_1 <| cj @errV.eq_1 <| @Glyph.row.eq_1) (scaled_a (f.pick name) p) Tryz.func103 ?_
   obtain ⟨q, hq⟩ : ∃ q, scaledR (f.pick name) p = q := ⟨_, rfl⟩
   rw [hq] at hR hb ⊢
   obtain ⟨g, er⟩ := q
   simp only at hR hb ⊢
   by_cases he : er = 0
   · obtain ⟨b1, b2⟩ := hb he
     have hw : IntKind.i64.wrap (g.w + if 0 < g.italic then g.italic else 0) = g.w + if 0 < g.italic then g.italic else 0 := by split <;> exact wrap_i64 (by omega) (by omega)
     refine go (cj @he <| @hw) ?_
     simp [aRet, ares, aresL, ares1, V.pub, V.pubs, ldV, Tryz.results82, boxEV, boxV, errV, fboxR, hv, hR, he, glyphBox, Box.row, Box.rows, intsC, mx]
   · refine go @he ?_
     simp [aRet, ares, aresL, ares1, V.pub, V.pubs, ldV, Tryz.results82, boxEV, boxV, errV, fboxR, hv, hR, he, Box.zero, Box.row, Box.rows, intsC]
def Stretch.zero : Stretch := ⟨⟨#[]⟩, [], [], 0⟩
def stretchV (s : Stretch) : V := .agg (s.row.map V.c)
def foundS (o : Option Stretch) : V := .tup [stretchV (o.getD Stretch.zero), .c (.bool o.isSome)]
theorem rstretch_a (f : Font) (name : ByteArray) (hl : f.stretches.length ≤ maxLen) : AC Tryz.prog 95 [.agg f.vs, .c (.str name)] (foundS (f.stretch name)) := by
 unfold maxLen at hl
 refine en Tryz.func95 Tryz.ntmps95 ?_
 refine go @stretchesC.eq_1 ?_
 refine lp (ι := { k : Nat // k ≤ f.stretches.length ∧ f.stretch name = stretchO name (f.stretches.drop k) }) (fun k => [(6, .c (.int .i64 (k.1 : Int))), (5, .c (.bool false))]) (fun _ => [.box 27 f.vs false, .box 61 [.c (.str ⟨#[]⟩), .full [], .full [], .c (.int .i64 0)] false]) (fun k => f.stretches.length - k.1) ⟨0, by simp [Font.stretch]⟩ ?_ ?_
 all_goals simp only [puts, List.foldl_cons, List.foldl_nil, List.set_cons_zero, List.set_cons_succ]
 · refine Le.weak (by simp [subT])
 · rintro ⟨k, hk, hI⟩
   by_cases hlt : k < f.stretches.length
   · obtain ⟨g, hg⟩ : ∃ g, f.stretches[k] = g := ⟨_, rfl⟩
     rw [List.drop_eq_getElem_cons hlt, hg] at hI
     by_cases he : g.name = name
     · have hF : f.stretch name = some g := by rw [hI]; simp [stretchO, he]
       refine go (cj @hlt <| cj @hg <| cj @he <| cj @stretchesC.eq_1 <| @Stretch.row.eq_1) ?_
       simp [aRet, ares, aresL, ares1, V.pub, V.pubs, ldV, Tryz.results95, foundS, stretchV, hF, Stretch.row, he]
     · have hw : IntKind.i64.wrap ((k : Int) + 1) = ((k + 1 : Nat) : Int) := by rw [wrap_i64 (by omega) (by omega)]; simp
       refine go (cj @hlt <| cj @hg <| cj @he <| cj @stretchesC.eq_1 <| cj @Stretch.row.eq_1 <| @hw) ?_
       refine ⟨⟨k + 1, by omega, by rw [hI]; simp [stretchO, he]⟩, by simp only; omega, ?_⟩
       refine Le.weak (by simp [subT])
   · have hF : f.stretch name = none := by rw [hI, List.drop_of_length_le (by omega)]; rfl
     refine go (cj @hlt <| @stretchesC.eq_1) ?_
     simp [aRet, ares, aresL, ares1, V.pub, V.pubs, ldV, Tryz.results95, foundS, stretchV, hF, Stretch.zero, Stretch.row, sizesC, partsC]
end Go.Proofs.YthbcljjpmdfflaaGreat
