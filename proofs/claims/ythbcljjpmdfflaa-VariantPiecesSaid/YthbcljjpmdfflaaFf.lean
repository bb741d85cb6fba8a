/-
  A font as the abstract machine reads it is a font as the walks read it: font.Valid's contract.
-/
import Derived.Test.YthbcljjpmdfflaaFe
import Derived.Test.YthbcljjpmdfflaaG2
namespace Go.Proofs.Ythbcljjpmdfflaa
open Go.RowKit
set_option linter.unusedSimpArgs false
set_option linter.unusedVariables false
set_option maxRecDepth 100000

section
variable {S : Area} {w : World}
theorem row_of {l : List C} {b off : Nat} (h : RdR S w l b off) : ∃ row : Array Value, RowAt w b off row ∧ RdL S w l row.toList ∧ row.size = l.length := by
  obtain ⟨vs, h1, h2, _⟩ := RdR.vals l b off h
  refine ⟨vs.toArray, fun j hj => ?_, by simpa using h1, by simpa using h1.len⟩
  have hj' : j < vs.length := by simpa using hj
  rw [h2 j vs[j] (List.getElem?_eq_getElem hj')]
  simp [hj']
theorem sl_conv {α : Type} (r : α → List C) (d : α → D) (h : ∀ x vs, RdL S w (r x) vs → Rd w (d x) vs) : ∀ (l : List α) (v : Value), RdC S w (.sl (l.map r)) v → Rd w (.sl (l.map d)) [v] := by
  have key : ∀ (l : List α) (b off : Nat), RdRs S w (l.map r) b off → RdS w (l.map d) b off := by
    intro l
    induction l with
    | nil => intro b off _; simp only [List.map_nil, RdS]
    | cons x l ih =>
      intro b off hx
      simp only [List.map_cons, RdRs] at hx
      obtain ⟨row, k1, k2, k3⟩ := row_of hx.1
      simp only [List.map_cons, RdS]
      exact ⟨row, k1, h x _ k2, by rw [k3]; exact ih b _ hx.2⟩
  intro l v hv
  simp only [RdC, List.length_map] at hv
  obtain ⟨A, c, rfl, h1, h2, h3⟩ := hv
  simp only [Rd, List.length_map]
  refine ⟨A, c, rfl, h1, h2, fun hne => ?_⟩
  obtain ⟨b, off, es, hA, _, hr⟩ := h3 (by intro e; apply hne; cases l with | nil => rfl | cons x l => simp at e)
  exact ⟨b, off, hA, key l b off hr⟩
theorem glyph_conv (g : Glyph) (vs : List Value) (h : RdL S w g.row vs) : Rd w g.ds vs := by
  simp only [Glyph.row, RdL, RdC] at h
  obtain ⟨v0, r0, rfl, ⟨rfl, h0⟩, v1, r1, rfl, ⟨rfl, h1⟩, v2, r2, rfl, ⟨rfl, h2⟩, v3, r3, rfl, ⟨rfl, h3⟩, v4, r4, rfl, ⟨rfl, h4⟩, v5, r5, rfl, ⟨rfl, h5⟩, rfl⟩ := h
  rw [rd_glyph]
  exact ⟨rfl, h0, i64_wf.1 h1, i64_wf.1 h2, i64_wf.1 h3, i64_wf.1 h4, i64_wf.1 h5⟩
theorem part_conv (p : Part) (vs : List Value) (h : RdL S w p.row vs) : Rd w p.ds vs := by
  simp only [Part.row, RdL, RdC] at h
  obtain ⟨v0, r0, rfl, ⟨rfl, h0⟩, v1, r1, rfl, rfl, rfl⟩ := h
  rw [rd_part]
  exact ⟨rfl, h0⟩
theorem stretch_conv (s : Stretch) (vs : List Value) (h : RdL S w s.row vs) : Rd w s.ds vs := by
  simp only [Stretch.row, RdL] at h
  obtain ⟨v0, r0, rfl, h0, v1, r1, rfl, h1, v2, r2, rfl, h2, v3, r3, rfl, h3, rfl⟩ := h
  simp only [RdC] at h0 h3
  obtain ⟨rfl, h0⟩ := h0
  obtain ⟨rfl, h3⟩ := h3
  rw [rd_stretch]
  exact ⟨v1, v2, rfl, h0, sl_conv (fun n => [.str n]) D.str (fun n vs h => by
    simp only [RdL, RdC] at h
    obtain ⟨v, r, rfl, ⟨rfl, hs⟩, rfl⟩ := h
    rw [rd_str]
    exact ⟨rfl, hs⟩) s.sizes v1 h1, sl_conv Part.row Part.ds part_conv s.parts v2 h2, i64_wf.1 h3⟩
theorem ints_conv : ∀ (l : List Int) (vs : List Value), RdL S w (l.map (C.int .i64)) vs → vs = l.map (Value.int .i64) ∧ ∀ n ∈ l, I64 n
  | [], vs, h => by simp only [List.map_nil, RdL] at h; exact ⟨h, by simp⟩
  | n :: l, vs, h => by
    simp only [List.map_cons, RdL, RdC] at h
    obtain ⟨v, r, rfl, ⟨rfl, hw⟩, h⟩ := h
    obtain ⟨rfl, h2⟩ := ints_conv l r h
    exact ⟨rfl, fun m hm => by rcases List.mem_cons.1 hm with rfl | hm; exact i64_wf.1 hw; exact h2 m hm⟩
theorem font_conv (f : Font) (vs : List Value) (h : RdL S w f.row vs) : Rd w f.ds vs := by
  simp only [Font.row, RdL] at h
  obtain ⟨v0, r0, rfl, h0, v1, r1, rfl, h1, h2⟩ := h
  obtain ⟨rfl, h3⟩ := ints_conv _ _ h2
  rw [rd_font]
  exact ⟨v0, v1, rfl, sl_conv Glyph.row Glyph.ds glyph_conv _ v0 h0, sl_conv Stretch.row Stretch.ds stretch_conv _ v1 h1, h3⟩
theorem CVs.toC {x : Cx} : ∀ (l : List C) (vs : List Value), CVs x w (l.map V.c) vs → RdL x.S w l vs
  | [], vs, h => by simpa only [List.map_nil, CVs, RdL] using h
  | c :: l, vs, h => by
    simp only [List.map_cons, CVs, CV] at h
    obtain ⟨v, r, rfl, h1, h2⟩ := h
    simp only [RdL]
    exact ⟨v, r, rfl, h1, CVs.toC l r h2⟩
end

theorem fvalid_a (f : Font) : AC Try.prog 88 [.agg f.vs] (.c (.bool f.valid)) := by
  intro S w us hS hus
  simp only [CVs, CV] at hus
  obtain ⟨u, ur, rfl, ⟨cs, rfl, hcs⟩, rfl⟩ := hus
  have hf : Rd w f.ds cs.toList := font_conv f _ (CVs.toC f.row _ hcs)
  refine (valid_c f cs w hf).mono ?_
  rintro r w' ⟨rfl, hk⟩
  exact ⟨_, S, rfl, hk, ⟨fun _ _ h => h, fun b j v _ hc => hk.cell hc⟩, fun b j h => .inl h, by simp only [CV, RdC]⟩

/-- what font.Box returns -/
def fboxR (f : Font) (name : ByteArray) (p : Int) : Box × Int := if f.valid = true then sizedR f name p else (Box.zero, 1)
theorem fbox_a (f : Font) (name : ByteArray) (p : Int) (hl : f.glyphs.length ≤ maxLen) : AC Try.prog 109 [.agg f.vs, .c (.str name), .c (.int .i64 p)] (boxEV (fboxR f name p)) := by
  have hR : sizedR f name p = if (scaledR (f.pick name) p).2 = 0 then (glyphBox (scaledR (f.pick name) p).1 p, 0) else (Box.zero, (scaledR (f.pick name) p).2) := rfl
  have hb : (scaledR (f.pick name) p).2 = 0 → (-200000 ≤ (scaledR (f.pick name) p).1.w ∧ (scaledR (f.pick name) p).1.w ≤ 200000) ∧ (-200000 ≤ (scaledR (f.pick name) p).1.italic ∧ (scaledR (f.pick name) p).1.italic ≤ 200000) := by
    intro h
    obtain ⟨h1, h2, h3⟩ := scaledR_ok _ _ h
    have := scaled_small _ _ h1 h2
    rw [h3]
    exact ⟨this.1, this.2.2.2⟩
  cases hv : f.valid with
  | false =>
    refine AC.intro Try.func109 rfl ?_
    simp only [Try.ntmps109, List.map_cons, List.map_nil, List.length_cons, List.length_nil, Nat.reduceAdd, Nat.reduceSub, List.replicate_succ, List.replicate_zero, List.cons_append, List.nil_append]
    repeat (first
     | (with_reducible first | refine AW.seq ?_ | refine AW.block ?_ | refine aThen_n ?_ | refine aBlk_n ?_ | refine AW.ret ?_ | refine aThen_r ?_ | refine aBlk_r ?_ | refine aops_done ?_ | refine AW.skip ?_ | refine AW.exit ?_ | refine aThen_e ?_ | refine aBlk_hit ?_ | refine AW.label ?_ | refine AW.scope ?_ | refine aNg_n ?_ | refine aNg_r ?_ | refine aNg_e ?_)
     | ((with_reducible refine AW.region ?_); with_reducible refine aops_run (by simp [List.replicate_succ]; first | exact rfl | exact ⟨rfl, rfl⟩) ?_)
     | ((with_reducible refine AW.draw mixedP ?_ ?_); (focus first | exact .inl rfl | exact .inr (by decide)); with_reducible refine adraw_go (by simp [List.replicate_succ]; first | exact rfl | exact ⟨rfl, rfl, rfl⟩) ?_)
     | (with_reducible refine adraw_done (by kernel_rfl) ?_)
     | ((with_reducible refine aBlk_miss ?_ ?_); focus decide)
     | ((with_reducible refine cond_t ?_ ?_); focus (simp [ev]; done))
     | ((with_reducible refine cond_f ?_ ?_); focus (simp [ev]; done)))
    (with_reducible first | refine aops_c (fvalid_a f) Try.func88 (by kernel_rfl) (by kernel_rfl) ?_ ?_ ?_ | refine adraw_c (fvalid_a f) Try.func88 (by kernel_rfl) (by kernel_rfl) ?_ ?_ ?_)
    focus (simp [gate, hv]; done)
    focus (simp [pubCall, hv]; done)
    first | (with_reducible refine aops_run (by simp [List.replicate_succ, hv]; first | exact rfl | exact ⟨rfl, rfl⟩) ?_) | (with_reducible refine adraw_go (by simp [List.replicate_succ, hv]; first | exact rfl | exact ⟨rfl, rfl, rfl⟩) ?_)
    repeat (first
     | (with_reducible first | refine AW.seq ?_ | refine AW.block ?_ | refine aThen_n ?_ | refine aBlk_n ?_ | refine AW.ret ?_ | refine aThen_r ?_ | refine aBlk_r ?_ | refine aops_done ?_ | refine AW.skip ?_ | refine AW.exit ?_ | refine aThen_e ?_ | refine aBlk_hit ?_ | refine AW.label ?_ | refine AW.scope ?_ | refine aNg_n ?_ | refine aNg_r ?_ | refine aNg_e ?_)
     | ((with_reducible refine AW.region ?_); with_reducible refine aops_run (by simp [List.replicate_succ]; first | exact rfl | exact ⟨rfl, rfl⟩) ?_)
     | ((with_reducible refine AW.draw mixedP ?_ ?_); (focus first | exact .inl rfl | exact .inr (by decide)); with_reducible refine adraw_go (by simp [List.replicate_succ]; first | exact rfl | exact ⟨rfl, rfl, rfl⟩) ?_)
     | (with_reducible refine adraw_done (by kernel_rfl) ?_)
     | ((with_reducible refine aBlk_miss ?_ ?_); focus decide)
     | ((with_reducible refine cond_t ?_ ?_); focus (simp [ev]; done))
     | ((with_reducible refine cond_f ?_ ?_); focus (simp [ev]; done)))
    simp [aRet, ares, aresL, ares1, V.pub, V.pubs, ldV, Try.results109, boxEV, boxV, errV, fboxR, hv, Box.zero, Box.row, Box.rows, intsC]
  | true =>
    refine AC.intro Try.func109 rfl ?_
    simp only [Try.ntmps109, List.map_cons, List.map_nil, List.length_cons, List.length_nil, Nat.reduceAdd, Nat.reduceSub, List.replicate_succ, List.replicate_zero, List.cons_append, List.nil_append]
    repeat (first
     | (with_reducible first | refine AW.seq ?_ | refine AW.block ?_ | refine aThen_n ?_ | refine aBlk_n ?_ | refine AW.ret ?_ | refine aThen_r ?_ | refine aBlk_r ?_ | refine aops_done ?_ | refine AW.skip ?_ | refine AW.exit ?_ | refine aThen_e ?_ | refine aBlk_hit ?_ | refine AW.label ?_ | refine AW.scope ?_ | refine aNg_n ?_ | refine aNg_r ?_ | refine aNg_e ?_)
     | ((with_reducible refine AW.region ?_); with_reducible refine aops_run (by simp [List.replicate_succ]; first | exact rfl | exact ⟨rfl, rfl⟩) ?_)
     | ((with_reducible refine AW.draw mixedP ?_ ?_); (focus first | exact .inl rfl | exact .inr (by decide)); with_reducible refine adraw_go (by simp [List.replicate_succ]; first | exact rfl | exact ⟨rfl, rfl, rfl⟩) ?_)
     | (with_reducible refine adraw_done (by kernel_rfl) ?_)
     | ((with_reducible refine aBlk_miss ?_ ?_); focus decide)
     | ((with_reducible refine cond_t ?_ ?_); focus (simp [ev]; done))
     | ((with_reducible refine cond_f ?_ ?_); focus (simp [ev]; done)))
    (with_reducible first | refine aops_c (fvalid_a f) Try.func88 (by kernel_rfl) (by kernel_rfl) ?_ ?_ ?_ | refine adraw_c (fvalid_a f) Try.func88 (by kernel_rfl) (by kernel_rfl) ?_ ?_ ?_)
    focus (simp [gate, hv]; done)
    focus (simp [pubCall, hv]; done)
    first | (with_reducible refine aops_run (by simp [List.replicate_succ, hv]; first | exact rfl | exact ⟨rfl, rfl⟩) ?_) | (with_reducible refine adraw_go (by simp [List.replicate_succ, hv]; first | exact rfl | exact ⟨rfl, rfl, rfl⟩) ?_)
    repeat (first
     | (with_reducible first | refine AW.seq ?_ | refine AW.block ?_ | refine aThen_n ?_ | refine aBlk_n ?_ | refine AW.ret ?_ | refine aThen_r ?_ | refine aBlk_r ?_ | refine aops_done ?_ | refine AW.skip ?_ | refine AW.exit ?_ | refine aThen_e ?_ | refine aBlk_hit ?_ | refine AW.label ?_ | refine AW.scope ?_ | refine aNg_n ?_ | refine aNg_r ?_ | refine aNg_e ?_)
     | ((with_reducible refine AW.region ?_); with_reducible refine aops_run (by simp [List.replicate_succ]; first | exact rfl | exact ⟨rfl, rfl⟩) ?_)
     | ((with_reducible refine AW.draw mixedP ?_ ?_); (focus first | exact .inl rfl | exact .inr (by decide)); with_reducible refine adraw_go (by simp [List.replicate_succ]; first | exact rfl | exact ⟨rfl, rfl, rfl⟩) ?_)
     | (with_reducible refine adraw_done (by kernel_rfl) ?_)
     | ((with_reducible refine aBlk_miss ?_ ?_); focus decide)
     | ((with_reducible refine cond_t ?_ ?_); focus (simp [ev]; done))
     | ((with_reducible refine cond_f ?_ ?_); focus (simp [ev]; done)))
    (with_reducible first | refine aops_c (pick_a f name hl) Try.func135 (by kernel_rfl) (by kernel_rfl) ?_ ?_ ?_ | refine adraw_c (pick_a f name hl) Try.func135 (by kernel_rfl) (by kernel_rfl) ?_ ?_ ?_)
    focus (simp [gate, glyphV, Glyph.row]; done)
    focus (simp [pubCall, glyphV, Glyph.row]; done)
    first | (with_reducible refine aops_run (by simp [List.replicate_succ, glyphV, Glyph.row]; first | exact rfl | exact ⟨rfl, rfl⟩) ?_) | (with_reducible refine adraw_go (by simp [List.replicate_succ, glyphV, Glyph.row]; first | exact rfl | exact ⟨rfl, rfl, rfl⟩) ?_)
    (with_reducible first | refine aops_c (scaled_a (f.pick name) p) Try.func134 (by kernel_rfl) (by kernel_rfl) ?_ ?_ ?_ | refine adraw_c (scaled_a (f.pick name) p) Try.func134 (by kernel_rfl) (by kernel_rfl) ?_ ?_ ?_)
    focus (simp [gate, scaledV, glyphV, errV, Glyph.row]; done)
    focus (simp [pubCall, scaledV, glyphV, errV, Glyph.row]; done)
    first | (with_reducible refine aops_run (by simp [List.replicate_succ, scaledV, glyphV, errV, Glyph.row]; first | exact rfl | exact ⟨rfl, rfl⟩) ?_) | (with_reducible refine adraw_go (by simp [List.replicate_succ, scaledV, glyphV, errV, Glyph.row]; first | exact rfl | exact ⟨rfl, rfl, rfl⟩) ?_)
    obtain ⟨q, hq⟩ : ∃ q, scaledR (f.pick name) p = q := ⟨_, rfl⟩
    rw [hq] at hR hb ⊢
    obtain ⟨g, er⟩ := q
    simp only at hR hb ⊢
    by_cases he : er = 0
    · obtain ⟨b1, b2⟩ := hb he
      have hw : IntKind.i64.wrap (g.w + if 0 < g.italic then g.italic else 0) = g.w + if 0 < g.italic then g.italic else 0 := by split <;> exact wrap_i64 (by omega) (by omega)
      repeat (first
       | (with_reducible first | refine AW.seq ?_ | refine AW.block ?_ | refine aThen_n ?_ | refine aBlk_n ?_ | refine AW.ret ?_ | refine aThen_r ?_ | refine aBlk_r ?_ | refine aops_done ?_ | refine AW.skip ?_ | refine AW.exit ?_ | refine aThen_e ?_ | refine aBlk_hit ?_ | refine AW.label ?_ | refine AW.scope ?_ | refine aNg_n ?_ | refine aNg_r ?_ | refine aNg_e ?_)
       | ((with_reducible refine AW.region ?_); with_reducible refine aops_run (by simp [List.replicate_succ, he, hw]; first | exact rfl | exact ⟨rfl, rfl⟩) ?_)
       | ((with_reducible refine AW.draw mixedP ?_ ?_); (focus first | exact .inl rfl | exact .inr (by decide)); with_reducible refine adraw_go (by simp [List.replicate_succ, he, hw]; first | exact rfl | exact ⟨rfl, rfl, rfl⟩) ?_)
       | (with_reducible refine adraw_done (by kernel_rfl) ?_)
       | ((with_reducible refine aBlk_miss ?_ ?_); focus decide)
       | ((with_reducible refine cond_t ?_ ?_); focus (simp [ev, he, hw]; done))
       | ((with_reducible refine cond_f ?_ ?_); focus (simp [ev, he, hw]; done)))
      simp [aRet, ares, aresL, ares1, V.pub, V.pubs, ldV, Try.results109, boxEV, boxV, errV, fboxR, hv, hR, he, glyphBox, Box.row, Box.rows, intsC, mx]
    · repeat (first
       | (with_reducible first | refine AW.seq ?_ | refine AW.block ?_ | refine aThen_n ?_ | refine aBlk_n ?_ | refine AW.ret ?_ | refine aThen_r ?_ | refine aBlk_r ?_ | refine aops_done ?_ | refine AW.skip ?_ | refine AW.exit ?_ | refine aThen_e ?_ | refine aBlk_hit ?_ | refine AW.label ?_ | refine AW.scope ?_ | refine aNg_n ?_ | refine aNg_r ?_ | refine aNg_e ?_)
       | ((with_reducible refine AW.region ?_); with_reducible refine aops_run (by simp [List.replicate_succ, he]; first | exact rfl | exact ⟨rfl, rfl⟩) ?_)
       | ((with_reducible refine AW.draw mixedP ?_ ?_); (focus first | exact .inl rfl | exact .inr (by decide)); with_reducible refine adraw_go (by simp [List.replicate_succ, he]; first | exact rfl | exact ⟨rfl, rfl, rfl⟩) ?_)
       | (with_reducible refine adraw_done (by kernel_rfl) ?_)
       | ((with_reducible refine aBlk_miss ?_ ?_); focus decide)
       | ((with_reducible refine cond_t ?_ ?_); focus (simp [ev, he]; done))
       | ((with_reducible refine cond_f ?_ ?_); focus (simp [ev, he]; done)))
      simp [aRet, ares, aresL, ares1, V.pub, V.pubs, ldV, Try.results109, boxEV, boxV, errV, fboxR, hv, hR, he, Box.zero, Box.row, Box.rows, intsC]

def Stretch.zero : Stretch := ⟨⟨#[]⟩, [], [], 0⟩
def stretchV (s : Stretch) : V := .agg (s.row.map V.c)
def foundS (o : Option Stretch) : V := .tup [stretchV (o.getD Stretch.zero), .c (.bool o.isSome)]
theorem rstretch_a (f : Font) (name : ByteArray) (hl : f.stretches.length ≤ maxLen) : AC Try.prog 33 [.agg f.vs, .c (.str name)] (foundS (f.stretch name)) := by
  unfold maxLen at hl
  refine AC.intro Try.func33 rfl ?_
  simp only [Try.ntmps33, List.map_cons, List.map_nil, List.length_cons, List.length_nil, Nat.reduceAdd, Nat.reduceSub, List.replicate_succ, List.replicate_zero, List.cons_append, List.nil_append]
  repeat (first
   | (with_reducible first | refine AW.seq ?_ | refine AW.block ?_ | refine aThen_n ?_ | refine aBlk_n ?_ | refine AW.ret ?_ | refine aThen_r ?_ | refine aBlk_r ?_ | refine aops_done ?_ | refine AW.skip ?_ | refine AW.exit ?_ | refine aThen_e ?_ | refine aBlk_hit ?_ | refine AW.label ?_ | refine AW.scope ?_ | refine aNg_n ?_ | refine aNg_r ?_ | refine aNg_e ?_)
   | ((with_reducible refine AW.region ?_); with_reducible refine aops_run (by simp [List.replicate_succ, stretchesC]; first | exact rfl | exact ⟨rfl, rfl⟩) ?_)
   | ((with_reducible refine AW.draw mixedP ?_ ?_); (focus first | exact .inl rfl | exact .inr (by decide)); with_reducible refine adraw_go (by simp [List.replicate_succ, stretchesC]; first | exact rfl | exact ⟨rfl, rfl, rfl⟩) ?_)
   | (with_reducible refine adraw_done (by kernel_rfl) ?_)
   | ((with_reducible refine aBlk_miss ?_ ?_); focus decide)
   | ((with_reducible refine cond_t ?_ ?_); focus (simp [ev, stretchesC]; done))
   | ((with_reducible refine cond_f ?_ ?_); focus (simp [ev, stretchesC]; done)))
  refine AW.loopH (ι := { k : Nat // k ≤ f.stretches.length ∧ f.stretch name = stretchO name (f.stretches.drop k) }) (fun k => [(6, .c (.int .i64 (k.1 : Int))), (5, .c (.bool false))]) (fun _ => [.box 27 f.vs false, .box 59 [.c (.str ⟨#[]⟩), .full [], .full [], .c (.int .i64 0)] false]) (fun k => f.stretches.length - k.1) ⟨0, by simp [Font.stretch]⟩ _ (by simp only [wr, wrOps, List.cons_append, List.nil_append, List.append_nil, List.append_assoc]; exact rfl) _ (by simp only [havoc, List.foldl_cons, List.foldl_nil, List.set_cons_zero, List.set_cons_succ]; exact rfl) ?_ ?_
  all_goals simp only [puts, List.foldl_cons, List.foldl_nil, List.set_cons_zero, List.set_cons_succ]
  · refine Le.weak (by simp [subT])
  · rintro ⟨k, hk, hI⟩
    by_cases hlt : k < f.stretches.length
    · obtain ⟨g, hg⟩ : ∃ g, f.stretches[k] = g := ⟨_, rfl⟩
      rw [List.drop_eq_getElem_cons hlt, hg] at hI
      by_cases he : g.name = name
      · have hF : f.stretch name = some g := by rw [hI]; simp [stretchO, he]
        repeat (first
         | (with_reducible first | refine AW.seq ?_ | refine AW.block ?_ | refine aThen_n ?_ | refine aBlk_n ?_ | refine AW.ret ?_ | refine aThen_r ?_ | refine aBlk_r ?_ | refine aops_done ?_ | refine AW.skip ?_ | refine AW.exit ?_ | refine aThen_e ?_ | refine aBlk_hit ?_ | refine AW.label ?_ | refine AW.scope ?_ | refine aNg_n ?_ | refine aNg_r ?_ | refine aNg_e ?_)
         | ((with_reducible refine AW.region ?_); with_reducible refine aops_run (by simp [List.replicate_succ, hlt, hg, he, stretchesC, Stretch.row]; first | exact rfl | exact ⟨rfl, rfl⟩) ?_)
         | ((with_reducible refine AW.draw mixedP ?_ ?_); (focus first | exact .inl rfl | exact .inr (by decide)); with_reducible refine adraw_go (by simp [List.replicate_succ, hlt, hg, he, stretchesC, Stretch.row]; first | exact rfl | exact ⟨rfl, rfl, rfl⟩) ?_)
         | (with_reducible refine adraw_done (by kernel_rfl) ?_)
         | ((with_reducible refine aBlk_miss ?_ ?_); focus decide)
         | ((with_reducible refine cond_t ?_ ?_); focus (simp [ev, hlt, hg, he, stretchesC, Stretch.row]; done))
         | ((with_reducible refine cond_f ?_ ?_); focus (simp [ev, hlt, hg, he, stretchesC, Stretch.row]; done)))
        simp [aRet, ares, aresL, ares1, V.pub, V.pubs, ldV, Try.results33, foundS, stretchV, hF, Stretch.row, he]
      · have hw : IntKind.i64.wrap ((k : Int) + 1) = ((k + 1 : Nat) : Int) := by rw [wrap_i64 (by omega) (by omega)]; simp
        repeat (first
         | (with_reducible first | refine AW.seq ?_ | refine AW.block ?_ | refine aThen_n ?_ | refine aBlk_n ?_ | refine AW.ret ?_ | refine aThen_r ?_ | refine aBlk_r ?_ | refine aops_done ?_ | refine AW.skip ?_ | refine AW.exit ?_ | refine aThen_e ?_ | refine aBlk_hit ?_ | refine AW.label ?_ | refine AW.scope ?_ | refine aNg_n ?_ | refine aNg_r ?_ | refine aNg_e ?_)
         | ((with_reducible refine AW.region ?_); with_reducible refine aops_run (by simp [List.replicate_succ, hlt, hg, he, stretchesC, Stretch.row, hw]; first | exact rfl | exact ⟨rfl, rfl⟩) ?_)
         | ((with_reducible refine AW.draw mixedP ?_ ?_); (focus first | exact .inl rfl | exact .inr (by decide)); with_reducible refine adraw_go (by simp [List.replicate_succ, hlt, hg, he, stretchesC, Stretch.row, hw]; first | exact rfl | exact ⟨rfl, rfl, rfl⟩) ?_)
         | (with_reducible refine adraw_done (by kernel_rfl) ?_)
         | ((with_reducible refine aBlk_miss ?_ ?_); focus decide)
         | ((with_reducible refine cond_t ?_ ?_); focus (simp [ev, hlt, hg, he, stretchesC, Stretch.row, hw]; done))
         | ((with_reducible refine cond_f ?_ ?_); focus (simp [ev, hlt, hg, he, stretchesC, Stretch.row, hw]; done)))
        refine ⟨⟨k + 1, by omega, by rw [hI]; simp [stretchO, he]⟩, by simp only; omega, ?_⟩
        refine Le.weak (by simp [subT])
    · have hF : f.stretch name = none := by rw [hI, List.drop_of_length_le (by omega)]; rfl
      repeat (first
       | (with_reducible first | refine AW.seq ?_ | refine AW.block ?_ | refine aThen_n ?_ | refine aBlk_n ?_ | refine AW.ret ?_ | refine aThen_r ?_ | refine aBlk_r ?_ | refine aops_done ?_ | refine AW.skip ?_ | refine AW.exit ?_ | refine aThen_e ?_ | refine aBlk_hit ?_ | refine AW.label ?_ | refine AW.scope ?_ | refine aNg_n ?_ | refine aNg_r ?_ | refine aNg_e ?_)
       | ((with_reducible refine AW.region ?_); with_reducible refine aops_run (by simp [List.replicate_succ, hlt, stretchesC]; first | exact rfl | exact ⟨rfl, rfl⟩) ?_)
       | ((with_reducible refine AW.draw mixedP ?_ ?_); (focus first | exact .inl rfl | exact .inr (by decide)); with_reducible refine adraw_go (by simp [List.replicate_succ, hlt, stretchesC]; first | exact rfl | exact ⟨rfl, rfl, rfl⟩) ?_)
       | (with_reducible refine adraw_done (by kernel_rfl) ?_)
       | ((with_reducible refine aBlk_miss ?_ ?_); focus decide)
       | ((with_reducible refine cond_t ?_ ?_); focus (simp [ev, hlt, stretchesC]; done))
       | ((with_reducible refine cond_f ?_ ?_); focus (simp [ev, hlt, stretchesC]; done)))
      simp [aRet, ares, aresL, ares1, V.pub, V.pubs, ldV, Try.results33, foundS, stretchV, hF, Stretch.zero, Stretch.row, sizesC, partsC]
end Go.Proofs.Ythbcljjpmdfflaa
