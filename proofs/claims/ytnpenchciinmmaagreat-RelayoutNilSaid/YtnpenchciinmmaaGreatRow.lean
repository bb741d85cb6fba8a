/-
  Fonts, glyphs, stretches as data of the abstract machine.
-/
import Derived.Test.YtnpenchciinmmaaGreatG4
import Derived.Test.YtnpenchciinmmaaGreatG1
namespace Go.Proofs.YtnpenchciinmmaaGreat

def Glyph.row (g : Glyph) : List C := [.str g.name, .int .i64 g.w, .int .i64 g.h, .int .i64 g.d, .int .i64 g.italic, .int .i64 g.attach]
def Part.row (p : Part) : List C := [.str p.name, .bool p.ext]
def sizesC (l : List ByteArray) : C := .sl (l.map fun n => [.str n])
def partsC (l : List Part) : C := .sl (l.map Part.row)
def Stretch.row (s : Stretch) : List C := [.str s.name, sizesC s.sizes, partsC s.parts, .int .i64 s.overlap]
def glyphsC (l : List Glyph) : C := .sl (l.map Glyph.row)
def stretchesC (l : List Stretch) : C := .sl (l.map Stretch.row)
def Params.list (p : Params) : List Int := [p.quad, p.xHeight, p.axis, p.rule, p.num1, p.num2, p.denom1, p.denom2, p.sup1, p.sup2, p.sup3, p.sub1, p.sub2, p.supDrop, p.subDrop, p.script, p.scriptScript, p.delimPercent, p.delimShort, p.accentHeight]
def Font.row (f : Font) : List C := glyphsC f.glyphs :: stretchesC f.stretches :: f.params.list.map (C.int .i64)
/-- a font's cells: kept shut -/
def Font.vs (f : Font) : List V := f.row.map V.c

def intsC (l : List Int) : C := .sl (l.map fun n => [.int .i64 n])
/-- a box -/
structure Box where
  kind : Int
  name : ByteArray
  size : Int
  w : Int
  h : Int
  d : Int
  x : Int
  y : Int
  kids : List Box
  of_ : Int
  src : List Int
mutual
def Box.row : Box → List C
  | ⟨k, n, s, w, h, d, x, y, kids, o, src⟩ => [.int .i64 k, .str n, .int .i64 s, .int .i64 w, .int .i64 h, .int .i64 d, .int .i64 x, .int .i64 y, .sl (Box.rows kids), .int .i64 o, intsC src]
def Box.rows : List Box → List (List C)
  | [] => []
  | b :: l => Box.row b :: Box.rows l
end
def Box.zero : Box := ⟨0, ⟨#[]⟩, 0, 0, 0, 0, 0, 0, [], 0, []⟩
def glyphV (g : Glyph) : V := .agg (g.row.map V.c)
def boxV (b : Box) : V := .agg (b.row.map V.c)
def errV (n : Int) : V := .c (.int .i64 n)
/-- the box of a glyph -/
def glyphBox (g : Glyph) (p : Int) : Box := ⟨1, g.name, p, g.w + mx 0 g.italic, g.h, g.d, 0, 0, [], 0, []⟩

theorem putL_whole : ∀ (vs cs : List V) (pre : List V), cs.length = vs.length → putL (pre ++ cs) pre.length vs = pre ++ vs
  | [], cs, pre, h => by have : cs = [] := (List.eq_nil_of_length_eq_zero (by simpa using h)); subst this; simp [putL]
  | v :: vs, c :: cs, pre, h => by
    simp only [putL]
    have := putL_whole vs cs (pre ++ [v]) (by simpa using h)
    simp only [List.length_append, List.length_cons, List.length_nil, Nat.zero_add, List.append_assoc, List.cons_append, List.nil_append] at this
    rw [← this]
    congr 1
    simp
theorem putL_all {vs cs : List V} (h : cs.length = vs.length) : putL cs 0 vs = vs := by simpa using putL_whole vs cs [] h

section
variable (f : Font)
@[simp] theorem Font.vs_len : f.vs.length = 22 := by simp [Font.vs, Font.row, Params.list]
@[simp] theorem Font.vs_flat : f.vs.all V.one = true := by simp [Font.vs, V.one]
@[simp] theorem Font.vs_take : f.vs.take 22 = f.vs := List.take_of_length_le (by simp)
@[simp] theorem Font.vs_0 : f.vs[0]? = some (.c (glyphsC f.glyphs)) := rfl
@[simp] theorem Font.vg_0 (h : 0 < f.vs.length) : f.vs[0]'h = .c (glyphsC f.glyphs) := rfl
@[simp] theorem Font.vs_1 : f.vs[1]? = some (.c (stretchesC f.stretches)) := rfl
@[simp] theorem Font.vg_1 (h : 1 < f.vs.length) : f.vs[1]'h = .c (stretchesC f.stretches) := rfl
@[simp] theorem Font.vs_2 : f.vs[2]? = some (.c (.int .i64 f.params.quad)) := rfl
@[simp] theorem Font.vg_2 (h : 2 < f.vs.length) : f.vs[2]'h = .c (.int .i64 f.params.quad) := rfl
@[simp] theorem Font.vs_3 : f.vs[3]? = some (.c (.int .i64 f.params.xHeight)) := rfl
@[simp] theorem Font.vg_3 (h : 3 < f.vs.length) : f.vs[3]'h = .c (.int .i64 f.params.xHeight) := rfl
@[simp] theorem Font.vs_4 : f.vs[4]? = some (.c (.int .i64 f.params.axis)) := rfl
@[simp] theorem Font.vg_4 (h : 4 < f.vs.length) : f.vs[4]'h = .c (.int .i64 f.params.axis) := rfl
@[simp] theorem Font.vs_5 : f.vs[5]? = some (.c (.int .i64 f.params.rule)) := rfl
@[simp] theorem Font.vg_5 (h : 5 < f.vs.length) : f.vs[5]'h = .c (.int .i64 f.params.rule) := rfl
@[simp] theorem Font.vs_19 : f.vs[19]? = some (.c (.int .i64 f.params.delimPercent)) := rfl
@[simp] theorem Font.vg_19 (h : 19 < f.vs.length) : f.vs[19]'h = .c (.int .i64 f.params.delimPercent) := rfl
@[simp] theorem Font.vs_20 : f.vs[20]? = some (.c (.int .i64 f.params.delimShort)) := rfl
@[simp] theorem Font.vg_20 (h : 20 < f.vs.length) : f.vs[20]'h = .c (.int .i64 f.params.delimShort) := rfl
theorem pubs_c : ∀ l : List C, V.pubs (l.map V.c) = some (l.map V.c)
  | [] => rfl
  | c :: l => by simp [V.pubs, V.pub, pubs_c l]
@[simp] theorem Font.vs_pubs : V.pubs f.vs = some f.vs := pubs_c f.row
theorem toCs_c : ∀ l : List C, toCs (l.map V.c) = some l
  | [] => rfl
  | c :: l => by simp [toCs, toC, toCs_c l]
@[simp] theorem Font.vs_toCs : toCs f.vs = some f.row := toCs_c f.row
end
end Go.Proofs.YtnpenchciinmmaaGreat
