import Derived.Test.YthbcljjpmdfflaaGreatG5
/-
 font.Stretch on the abstract machine.
-/
namespace Go.Proofs.YthbcljjpmdfflaaGreat
open Go.RowKit
set_option linter.unusedSimpArgs false
set_option linter.unusedVariables false
set_option maxRecDepth 100000
@[simp] theorem Font.vs_bnds (f : Font) (n : Nat) : V.bnds n f.vs = true := by
 have : ∀ l : List C, V.bnds n (l.map V.c) = true := by
  intro l
  induction l with
  | nil => rfl
  | cons c l ih => simp [V.bnds, V.bnd, ih]
 exact this f.row
set_option maxHeartbeats 800000 in
theorem stretch_a (f : Font) (name : ByteArray) (hl : f.stretches.length ≤ maxLen) (hs : ∀ s ∈ f.stretches, s.sizes.length ≤ 1000 ∧ s.parts.length ≤ 1000) : AC Tryz.prog 83 [.agg f.vs, .c (.str name)] (foundS (f.stretch name)) := by
 unfold maxLen at hl
 refine en Tryz.func83 Tryz.ntmps83 ?_
 refine go @stretchesC.eq_1 ?_
 refine lp (ι := { k : Nat // k ≤ f.stretches.length ∧ f.stretch name = stretchO name (f.stretches.drop k) }) (fun k => [(11, .c (.int .i64 (k.1 : Int))), (5, .c (.bool false))]) (fun _ => [.box 27 f.vs false, .box 61 [.c (.str ⟨#[]⟩), .full [], .full [], .c (.int .i64 0)] false]) (fun k => f.stretches.length - k.1) ⟨0, by simp [Font.stretch]⟩ ?_ ?_
 all_goals simp only [puts, List.foldl_cons, List.foldl_nil, List.set_cons_zero, List.set_cons_succ]
 · refine Le.weak (by simp [subT])
 · rintro ⟨k, hk, hI⟩
   by_cases hlt : k < f.stretches.length
   · obtain ⟨g, hg⟩ : ∃ g, f.stretches[k] = g := ⟨_, rfl⟩
     rw [List.drop_eq_getElem_cons hlt, hg] at hI
     have hm := hs f.stretches[k] (List.getElem_mem hlt)
     rw [hg] at hm
     by_cases he : g.name = name
     · have hF : f.stretch name = some g := by rw [hI]; simp [stretchO, he]
       have h1 : g.sizes.length ≤ maxLen := by unfold maxLen; omega
       have h2 : g.parts.length ≤ maxLen := by unfold maxLen; omega
       have h3 : g.sizes.length * 16 ≤ 140737488355328 := by omega
       have h4 : g.parts.length * 24 ≤ 140737488355328 := by omega
       refine go (cj @hlt <| cj @hg <| cj @he <| cj @stretchesC.eq_1 <| cj @Stretch.row.eq_1 <| cj @sizesC.eq_1 <| cj @partsC.eq_1 <| cj @Part.row.eq_1 <| cj @h1 <| cj @h2 <| cj @h3 <| @h4) ?_
       simp [aRet, ares, aresL, ares1, V.pub, V.pubs, ldV, Tryz.results83, foundS, stretchV, hF, Stretch.row, sizesC, partsC, he]
     · have hw : IntKind.i64.wrap ((k : Int) + 1) = ((k + 1 : Nat) : Int) := by rw [wrap_i64 (by omega) (by omega)]; simp
       refine go (cj @hlt <| cj @hg <| cj @he <| cj @stretchesC.eq_1 <| cj @Stretch.row.eq_1 <| @hw) ?_
       refine ⟨⟨k + 1, by omega, by rw [hI]; simp [stretchO, he]⟩, by simp only; omega, ?_⟩
       exact wd 2
   · have hF : f.stretch name = none := by rw [hI, List.drop_of_length_le (by omega)]; rfl
     refine go (cj @hlt <| @stretchesC.eq_1) ?_
     simp [aRet, ares, aresL, ares1, V.pub, V.pubs, ldV, Tryz.results83, foundS, stretchV, hF, Stretch.zero, Stretch.row, sizesC, partsC]
end Go.Proofs.YthbcljjpmdfflaaGreat
namespace Go.Proofs.YthbcljjpmdfflaaGreat
open Go.RowKit
set_option linter.unusedSimpArgs false
set_option linter.unusedVariables false
set_option maxRecDepth 100000
theorem name_a (s : ByteArray) (hs : s.size ≤ maxLen) : AC Tryz.prog 55 [.c (.str s)] (.c (.bool (nameB s))) := by
 unfold maxLen at hs
 refine en Tryz.func55 Tryz.ntmps55 ?_
 refine go0 ?_
 refine lp (ι := { k : Nat // k ≤ s.size ∧ s.data.toList.all byteOk = (s.data.toList.drop k).all byteOk }) (fun k => [(3, .c (.int .i64 (k.1 : Int))), (2, .c (.bool false))]) (fun _ => []) (fun k => s.size - k.1) ⟨0, by simp⟩ ?_ ?_
 all_goals simp only [puts, List.foldl_cons, List.foldl_nil, List.set_cons_zero, List.set_cons_succ]
 · refine Le.weak (by simp [subT])
 · rintro ⟨k, hk, hI⟩
   by_cases hlt : k < s.size
   · have hd : s.data.toList.drop k = (s.data[k]'hlt) :: s.data.toList.drop (k + 1) := by rw [List.drop_eq_getElem_cons (by simpa using hlt)]; simp
     rw [hd, List.all_cons] at hI
     obtain ⟨b, hb⟩ : ∃ b, s.data[k]'hlt = b := ⟨_, rfl⟩
     rw [hb] at hI
     have hw : IntKind.i64.wrap ((k : Int) + 1) = ((k + 1 : Nat) : Int) := by rw [wrap_i64 (by omega) (by omega)]; simp
     by_cases h1 : (b.toNat : Int) < 32
     · have e : byteOk b = false := by simp [byteOk]; omega
       refine go (cj @hlt <| cj @hb <| @h1) ?_
       simp [aRet, ares, aresL, ares1, V.pub, V.pubs, ldV, Tryz.results55, nameB, hI, e]
     · by_cases h2 : (126 : Int) < (b.toNat : Int)
       · have e : byteOk b = false := by simp [byteOk]; omega
         refine go (cj @hlt <| cj @hb <| cj @h1 <| @h2) ?_
         simp [aRet, ares, aresL, ares1, V.pub, V.pubs, ldV, Tryz.results55, nameB, hI, e]
       · have e : byteOk b = true := by simp [byteOk]; omega
         refine go (cj @hlt <| cj @hb <| cj @h1 <| cj @h2 <| @hw) ?_
         refine ⟨⟨k + 1, by omega, by rw [hI, e, Bool.true_and]⟩, by simp only; omega, ?_⟩
         refine Le.weak (by simp [subT])
   · have hk' : k = s.size := by omega
     have e : s.data.toList.all byteOk = true := by rw [hI, List.drop_of_length_le (by simp; omega)]; rfl
     have hkk : s.size = s.data.size := rfl
     by_cases h1 : (1 : Int) ≤ (s.size : Int)
     · have hr : nameB s = decide ((s.size : Int) ≤ 16) := by
        unfold nameB
        rw [e, Bool.true_and, decide_eq_true (show 1 ≤ s.size by omega), Bool.true_and, decide_eq_decide]
        omega
       refine go (cj @hlt <| @h1) ?_
       simp [aRet, ares, aresL, ares1, V.pub, V.pubs, ldV, Tryz.results55, hr]
     · have hr : nameB s = false := by
        unfold nameB
        rw [decide_eq_false (show ¬ 1 ≤ s.size by omega), Bool.false_and, Bool.and_false]
       refine go (cj @hlt <| @h1) ?_
       simp [aRet, ares, aresL, ares1, V.pub, V.pubs, ldV, Tryz.results55, hr]
def Params.vs (p : Params) : List V := p.list.map fun n => V.c (.int .i64 n)
@[simp] theorem Font.vs_params (f : Font) : (f.vs.drop 2).take 20 = f.params.vs := by simp [Font.vs, Font.row, Params.vs, Params.list]
theorem inB_cons (lo hi n : Int) (l : List Int) : inB lo hi (n :: l) = (inB lo hi [n] && inB lo hi l) := by simp [inB]
theorem lens_len (p : Params) : p.lens.length = 17 := rfl
set_option maxHeartbeats 1600000 in
theorem params_a (p : Params) : AC Tryz.prog 50 [.agg p.vs] (.c (.bool (paramsOk p))) := by
 have hP : paramsOk p = (inB 1 100 p.perc && inB 0 20000 p.lens) := rfl
 have hl := lens_len p
 refine AC.intro Tryz.func50 rfl ?_
 simp only [Tryz.ntmps50, List.map_cons, List.map_nil, List.length_cons, List.length_nil, Nat.reduceAdd, Nat.reduceSub, List.replicate_succ, List.replicate_zero, List.cons_append, List.nil_append, Params.vs, Params.list]
 refine go0 ?_
 refine lp (ι := { k : Nat // k ≤ p.lens.length ∧ inB 0 20000 p.lens = inB 0 20000 (p.lens.drop k) }) (fun k => [(4, .c (.int .i64 (k.1 : Int))), (2, .c (.bool false)), (3, .full (p.lens.map fun n => [C.int .i64 n]))]) (fun _ => [.box 25 p.vs false]) (fun k => p.lens.length - k.1) ⟨0, by simp⟩ ?_ ?_
 all_goals simp only [puts, List.foldl_cons, List.foldl_nil, List.set_cons_zero, List.set_cons_succ]
 · refine Le.weak (by simp [subT, Params.lens, Params.vs, Params.list])
 · rintro ⟨k, hk, hI⟩
   by_cases hlt : k < p.lens.length
   · obtain ⟨n, hn⟩ : ∃ n, p.lens[k] = n := ⟨_, rfl⟩
     rw [List.drop_eq_getElem_cons hlt, hn, inB_cons] at hI
     have hw : IntKind.i64.wrap ((k : Int) + 1) = ((k + 1 : Nat) : Int) := by rw [wrap_i64 (by omega) (by omega)]; simp
     refine go (cj @hlt <| @hn) ?_
     refine gc0 (rwithin_a n 0 20000) Tryz.func73 ?_
     cases hb : inB 0 20000 [n] with
     | false =>
       have e : paramsOk p = false := by rw [hP, hI, hb]; simp
       refine go @hb ?_
       simp [aRet, ares, aresL, ares1, V.pub, V.pubs, ldV, Tryz.results50, e]
     | true =>
       refine go (cj @hb <| @hw) ?_
       refine ⟨⟨k + 1, by omega, by rw [hI, hb, Bool.true_and]⟩, by simp only; omega, ?_⟩
       refine Le.weak (by simp [subT])
   · have e : inB 0 20000 p.lens = true := by rw [hI, List.drop_of_length_le (by omega)]; rfl
     have hp : paramsOk p = (inB 1 100 [p.script] && (inB 1 100 [p.scriptScript] && inB 1 100 [p.delimPercent])) := by
      rw [hP, e, Bool.and_true]
      unfold Params.perc
      rw [inB_cons, inB_cons 1 100 p.scriptScript]
     cases c1 : inB 1 100 [p.script] with
     | false =>
       rw [c1, Bool.false_and] at hp
       refine go (cj @hlt <| cj @Params.vs.eq_1 <| @Params.list.eq_1) ?_
       refine gc @c1 (rwithin_a p.script 1 100) Tryz.func73 ?_
       refine go0 ?_
       simp [aRet, ares, aresL, ares1, V.pub, V.pubs, ldV, Tryz.results50, hp]
     | true =>
       cases c2 : inB 1 100 [p.scriptScript] with
       | false =>
         rw [c1, c2, Bool.false_and, Bool.and_false] at hp
         refine go (cj @hlt <| cj @Params.vs.eq_1 <| @Params.list.eq_1) ?_
         refine gc @c1 (rwithin_a p.script 1 100) Tryz.func73 ?_
         refine gc @c2 (rwithin_a p.scriptScript 1 100) Tryz.func73 ?_
         refine go0 ?_
         simp [aRet, ares, aresL, ares1, V.pub, V.pubs, ldV, Tryz.results50, hp]
       | true =>
         rw [c1, c2, Bool.true_and, Bool.true_and] at hp
         refine go (cj @hlt <| cj @Params.vs.eq_1 <| @Params.list.eq_1) ?_
         refine gc @c1 (rwithin_a p.script 1 100) Tryz.func73 ?_
         refine gc @c2 (rwithin_a p.scriptScript 1 100) Tryz.func73 ?_
         refine gc0 (rwithin_a p.delimPercent 1 100) Tryz.func73 ?_
         refine go0 ?_
         simp [aRet, ares, aresL, ares1, V.pub, V.pubs, ldV, Tryz.results50, hp]
def fewB (f : Font) : Bool := (decide (f.glyphs.length ≤ 500) && decide (f.stretches.length ≤ 50)) && f.stretches.all fun s => decide (s.sizes.length ≤ 50) && decide (s.parts.length ≤ 50)
theorem few_a (f : Font) (hg : f.glyphs.length ≤ maxLen) : AC Tryz.prog 14 [.agg f.vs] (.c (.bool (fewB f))) := by
 by_cases h1 : (500 : Int) < (f.glyphs.length : Int)
 · have e : fewB f = false := by simp [fewB]; omega
   refine en Tryz.func14 Tryz.ntmps14 ?_
   refine go (cj @h1 <| @glyphsC.eq_1) ?_
   simp [aRet, ares, aresL, ares1, V.pub, V.pubs, ldV, Tryz.results14, e]
 · by_cases h2 : (50 : Int) < (f.stretches.length : Int)
   · have e : fewB f = false := by simp [fewB]; omega
     refine en Tryz.func14 Tryz.ntmps14 ?_
     refine go (cj @h1 <| cj @h2 <| cj @glyphsC.eq_1 <| @stretchesC.eq_1) ?_
     simp [aRet, ares, aresL, ares1, V.pub, V.pubs, ldV, Tryz.results14, e]
   · have hF : fewB f = f.stretches.all fun s => decide (s.sizes.length ≤ 50) && decide (s.parts.length ≤ 50) := by
      unfold fewB
      rw [decide_eq_true (show f.glyphs.length ≤ 500 by omega), decide_eq_true (show f.stretches.length ≤ 50 by omega)]
      rfl
     refine en Tryz.func14 Tryz.ntmps14 ?_
     refine go (cj @h1 <| cj @h2 <| cj @glyphsC.eq_1 <| @stretchesC.eq_1) ?_
     refine lp (ι := { k : Nat // k ≤ f.stretches.length ∧ fewB f = (f.stretches.drop k).all fun s => decide (s.sizes.length ≤ 50) && decide (s.parts.length ≤ 50) }) (fun k => [(3, .c (.int .i64 (k.1 : Int))), (2, .c (.bool false))]) (fun _ => [.box 27 f.vs false]) (fun k => f.stretches.length - k.1) ⟨0, by simp [hF]⟩ ?_ ?_
     all_goals simp only [puts, List.foldl_cons, List.foldl_nil, List.set_cons_zero, List.set_cons_succ]
     · refine Le.weak (by simp [subT])
     · rintro ⟨k, hk, hI⟩
       by_cases hlt : k < f.stretches.length
       · obtain ⟨s, hs⟩ : ∃ s, f.stretches[k] = s := ⟨_, rfl⟩
         rw [List.drop_eq_getElem_cons hlt, hs, List.all_cons] at hI
         by_cases h3 : (50 : Int) < (s.sizes.length : Int)
         · have e : fewB f = false := by rw [hI]; simp; omega
           refine go (cj @hlt <| cj @hs <| cj @h3 <| cj @stretchesC.eq_1 <| cj @Stretch.row.eq_1 <| cj @sizesC.eq_1 <| @partsC.eq_1) ?_
           simp [aRet, ares, aresL, ares1, V.pub, V.pubs, ldV, Tryz.results14, e]
         · by_cases h4 : (50 : Int) < (s.parts.length : Int)
           · have e : fewB f = false := by rw [hI]; simp; omega
             refine go (cj @hlt <| cj @hs <| cj @h3 <| cj @h4 <| cj @stretchesC.eq_1 <| cj @Stretch.row.eq_1 <| cj @sizesC.eq_1 <| @partsC.eq_1) ?_
             simp [aRet, ares, aresL, ares1, V.pub, V.pubs, ldV, Tryz.results14, e]
           · have hw : IntKind.i64.wrap ((k : Int) + 1) = ((k + 1 : Nat) : Int) := by rw [wrap_i64 (by omega) (by omega)]; simp
             refine go (cj @hlt <| cj @hs <| cj @h3 <| cj @h4 <| cj @stretchesC.eq_1 <| cj @Stretch.row.eq_1 <| cj @sizesC.eq_1 <| cj @partsC.eq_1 <| @hw) ?_
             refine ⟨⟨k + 1, by omega, by rw [hI, decide_eq_true (show s.sizes.length ≤ 50 by omega), decide_eq_true (show s.parts.length ≤ 50 by omega)]; rfl⟩, by simp only; omega, ?_⟩
             refine Le.weak (by simp [subT])
       · have e : fewB f = true := by rw [hI, List.drop_of_length_le (by omega)]; rfl
         refine go (cj @hlt <| @stretchesC.eq_1) ?_
         simp [aRet, ares, aresL, ares1, V.pub, V.pubs, ldV, Tryz.results14, e]
end Go.Proofs.YthbcljjpmdfflaaGreat
namespace Go.Proofs.YthbcljjpmdfflaaGreat
open Go.RowKit
set_option linter.unusedSimpArgs false
set_option linter.unusedVariables false
set_option maxRecDepth 100000
theorem glyphOk_eq (g : Glyph) : glyphOk g = (nameB g.name && (inB (-20000) 20000 g.mets && decide (0 ≤ g.w))) := by
 unfold glyphOk
 cases nameB g.name with
 | false => rfl
 | true =>
   simp only [Bool.true_and]
   rw [Bool.eq_iff_iff]
   simp [inB, Glyph.mets]
   omega
set_option maxHeartbeats 1600000 in
theorem glyphs_a (l : List Glyph) (hl : l.length ≤ 1000) (hn : ∀ g ∈ l, g.name.size ≤ maxLen) : AC Tryz.prog 51 [.c (glyphsC l)] (.c (.bool (glyphsOk [] l))) := by
 refine en Tryz.func51 Tryz.ntmps51 ?_
 refine go0 ?_
 refine lp (ι := { k : Nat // k ≤ l.length ∧ glyphsOk [] l = glyphsOk (l.take k) (l.drop k) }) (fun k => [(3, .c (.int .i64 (k.1 : Int))), (2, .c (.bool false))]) (fun _ => []) (fun k => l.length - k.1) ⟨0, by simp⟩ ?_ ?_
 all_goals simp only [puts, List.foldl_cons, List.foldl_nil, List.set_cons_zero, List.set_cons_succ]
 · refine Le.weak (by simp [subT])
 · rintro ⟨k, hk, hI⟩
   by_cases hlt : k < l.length
   · obtain ⟨g, hg⟩ : ∃ g, l[k] = g := ⟨_, rfl⟩
     have hns := hn l[k] (List.getElem_mem hlt)
     rw [hg] at hns
     have htk : l.take k ++ [g] = l.take (k + 1) := by rw [List.take_succ_eq_append_getElem hlt, hg]
     rw [List.drop_eq_getElem_cons hlt, hg] at hI
     simp only [glyphsOk] at hI
     rw [htk] at hI
     have hw : IntKind.i64.wrap ((k : Int) + 1) = ((k + 1 : Nat) : Int) := by rw [wrap_i64 (by omega) (by omega)]; simp
     cases c1 : nameB g.name with
     | false =>
       have e : glyphsOk [] l = false := by rw [hI, glyphOk_eq, c1]; rfl
       refine go (cj @hlt <| cj @hg <| cj @glyphsC.eq_1 <| @Glyph.row.eq_1) ?_
       refine gc @c1 (name_a g.name hns) Tryz.func55 ?_
       refine go0 ?_
       simp [aRet, ares, aresL, ares1, V.pub, V.pubs, ldV, Tryz.results51, e]
     | true =>
       cases c2 : inB (-20000) 20000 g.mets with
       | false =>
         have e : glyphsOk [] l = false := by rw [hI, glyphOk_eq, c1, c2]; rfl
         refine go (cj @hlt <| cj @hg <| cj @glyphsC.eq_1 <| @Glyph.row.eq_1) ?_
         refine gc (cj @c1 <| cj @hlt <| cj @hg <| cj @Glyph.row.eq_1 <| @glyphV.eq_1) (name_a g.name hns) Tryz.func55 ?_
         refine gc (cj @c2 <| cj @hlt <| cj @hg <| cj @Glyph.row.eq_1 <| @glyphV.eq_1) (metrics_a g) Tryz.func74 ?_
         refine go0 ?_
         simp [aRet, ares, aresL, ares1, V.pub, V.pubs, ldV, Tryz.results51, e]
       | true =>
         by_cases c3 : g.w < 0
         · have e : glyphsOk [] l = false := by rw [hI, glyphOk_eq, c1, c2, decide_eq_false (show ¬ 0 ≤ g.w by omega)]; rfl
           refine go (cj @hlt <| cj @hg <| cj @glyphsC.eq_1 <| @Glyph.row.eq_1) ?_
           refine gc (cj @c1 <| cj @hlt <| cj @hg <| cj @Glyph.row.eq_1 <| @glyphV.eq_1) (name_a g.name hns) Tryz.func55 ?_
           refine gc (cj @c2 <| cj @hlt <| cj @hg <| cj @Glyph.row.eq_1 <| cj @glyphV.eq_1 <| @c3) (metrics_a g) Tryz.func74 ?_
           refine go0 ?_
           simp [aRet, ares, aresL, ares1, V.pub, V.pubs, ldV, Tryz.results51, e]
         · rw [glyphOk_eq, c1, c2, decide_eq_true (show 0 ≤ g.w by omega)] at hI
           simp only [Bool.true_and, Bool.and_self] at hI
           refine go (cj @hlt <| cj @hg <| cj @glyphsC.eq_1 <| @Glyph.row.eq_1) ?_
           refine gc (cj @c1 <| cj @hlt <| cj @hg <| cj @Glyph.row.eq_1 <| @glyphV.eq_1) (name_a g.name hns) Tryz.func55 ?_
           refine gc (cj @c2 <| cj @hlt <| cj @hg <| cj @Glyph.row.eq_1 <| cj @glyphV.eq_1 <| @c3) (metrics_a g) Tryz.func74 ?_
           refine go0 ?_
           refine lp (ι := { j : Nat // j ≤ k ∧ hasName g.name (l.take k) = hasName g.name ((l.take k).drop j) }) (fun j => [(4, .c (.int .i64 (j.1 : Int))), (2, .c (.bool false))]) (fun _ => []) (fun j => k - j.1) ⟨0, by simp⟩ ?_ ?_
           all_goals simp only [puts, List.foldl_cons, List.foldl_nil, List.set_cons_zero, List.set_cons_succ]
           · refine Le.weak (by simp [subT])
           · rintro ⟨j, hj, hJ⟩
             by_cases hjl : j < k
             · have hj2 : j < l.length := by omega
               obtain ⟨q, hq⟩ : ∃ q, l[j] = q := ⟨_, rfl⟩
               have hd : (l.take k).drop j = q :: (l.take k).drop (j + 1) := by
                rw [List.drop_eq_getElem_cons (by simp; omega)]
                simp [hq]
               rw [hd] at hJ
               simp only [hasName] at hJ
               by_cases he : q.name = g.name
               · have e : glyphsOk [] l = false := by rw [hI, hJ, decide_eq_true he]; rfl
                 refine go (cj @hjl <| cj @hj2 <| cj @hq <| cj @hlt <| cj @hg <| cj @he <| cj @glyphsC.eq_1 <| @Glyph.row.eq_1) ?_
                 simp [aRet, ares, aresL, ares1, V.pub, V.pubs, ldV, Tryz.results51, e]
               · have hw2 : IntKind.i64.wrap ((j : Int) + 1) = ((j + 1 : Nat) : Int) := by rw [wrap_i64 (by omega) (by omega)]; simp
                 refine go (cj @hjl <| cj @hj2 <| cj @hq <| cj @hlt <| cj @hg <| cj @he <| cj @glyphsC.eq_1 <| cj @Glyph.row.eq_1 <| @hw2) ?_
                 refine ⟨⟨j + 1, by omega, by rw [hJ, decide_eq_false he, Bool.false_or]⟩, by simp only; omega, ?_⟩
                 refine Le.weak (by simp [subT])
             · have e : hasName g.name (l.take k) = false := by rw [hJ, List.drop_of_length_le (by simp; omega)]; rfl
               refine go (cj @hjl <| @hw) ?_
               refine ⟨⟨k + 1, by omega, by rw [hI, e]; rfl⟩, by simp only; omega, ?_⟩
               refine Le.weak (by simp [subT, glyphsC])
   · have e : glyphsOk [] l = true := by rw [hI, List.drop_of_length_le (by omega)]; rfl
     refine go (cj @hlt <| @glyphsC.eq_1) ?_
     simp [aRet, ares, aresL, ares1, V.pub, V.pubs, ldV, Tryz.results51, e]
end Go.Proofs.YthbcljjpmdfflaaGreat
namespace Go.Proofs.YthbcljjpmdfflaaGreat
open Go.RowKit
set_option linter.unusedSimpArgs false
set_option linter.unusedVariables false
set_option maxRecDepth 100000
def rsizes (f : Font) : Nat → Int → List ByteArray → Bool
 | _, _, [] => true
 | i, last, n :: r => match f.find n with
   | none => false
   | some g => !(decide (0 < i) && decide (g.height ≤ last)) && rsizes f (i + 1) g.height r
def rparts (f : Font) (ov : Int) : Bool → List Part → Option Bool
 | e, [] => some e
 | e, p :: r => match f.find p.name with
   | none => none
   | some g => if g.height ≤ ov then none else rparts f ov (e || p.ext) r
def rstretchOk (f : Font) (s : Stretch) : Bool :=
 (nameB s.name && (decide (1 ≤ s.sizes.length) && (decide (s.sizes.length ≤ 16) && decide (s.parts.length ≤ 8)))) && (rsizes f 0 0 s.sizes && (if s.parts = [] then decide (s.overlap = 0) else match rparts f s.overlap false s.parts with
   | none => false
   | some e => e && decide (0 ≤ s.overlap)))
theorem findO_mem' {name : ByteArray} {g : Glyph} : ∀ {l : List Glyph}, findO name l = some g → g ∈ l
 | [], h => by simp [findO] at h
 | x :: r, h => by
   simp only [findO] at h
   split at h
   · simp only [Option.some.injEq] at h; subst h; simp
   · exact List.mem_cons_of_mem _ (findO_mem' h)
theorem height_small {f : Font} (hok : ∀ g ∈ f.glyphs, glyphOk g = true) {name : ByteArray} {g : Glyph} (h : f.find name = some g) : -40000 ≤ g.height ∧ g.height ≤ 40000 ∧ IntKind.i64.wrap (g.h + g.d) = g.height := by
 have := hok g (findO_mem' h)
 simp [glyphOk, inB] at this
 unfold Glyph.height
 exact ⟨by omega, by omega, wrap_i64 (by omega) (by omega)⟩
theorem rsizes_eq {f : Font} (hok : ∀ g ∈ f.glyphs, glyphOk g = true) : ∀ (l : List ByteArray) (i : Nat) (last last' : Int), (0 < i → last' = last) → (i = 0 → last' < -40000) → rsizes f i last l = sizesOk f.ht last' l
 | [], _, _, _, _, _ => rfl
 | n :: r, i, last, last', h1, h2 => by
   simp only [rsizes, sizesOk, Font.ht]
   cases hf : f.find n with
   | none => rfl
   | some g =>
     obtain ⟨b1, b2, _⟩ := height_small hok hf
     simp only [Option.map_some]
     rw [rsizes_eq hok r (i + 1) g.height g.height (fun _ => rfl) (fun e => by omega)]
     congr 1
     rw [Bool.eq_iff_iff]
     simp
     rcases Nat.eq_zero_or_pos i with e | e
     · have := h2 e; omega
     · have := h1 e; omega
theorem rparts_eq {f : Font} (hok : ∀ g ∈ f.glyphs, glyphOk g = true) (ov : Int) : ∀ (l : List Part) (e : Bool) (least : Int), ov < least →
 (match rparts f ov e l with | none => false | some e => e && decide (0 ≤ ov)) = (match partsFold f.ht least e l with | none => false | some (m, e) => e && inB 0 (m - 1) [ov])
 | [], e, least, hlt => by
   simp only [rparts, partsFold, inB, List.all_cons, List.all_nil, Bool.and_true]
   congr 1
   rw [decide_eq_true (show ov ≤ least - 1 by omega), Bool.and_true]
 | p :: r, e, least, hlt => by
   simp only [rparts, partsFold, Font.ht]
   cases hf : f.find p.name with
   | none => rfl
   | some g =>
     simp only [Option.map_some]
     by_cases hle : g.height ≤ ov
     · rw [if_pos hle]
       have key : ∀ (l : List Part) (e : Bool) (m : Int), m ≤ ov → (match partsFold f.ht m e l with | none => false | some (m, e) => e && inB 0 (m - 1) [ov]) = false := by
        intro l
        induction l with
        | nil => intro e m hm; simp [partsFold, inB]; omega
        | cons p l ih =>
          intro e m hm
          simp only [partsFold]
          cases f.ht p.name with
          | none => rfl
          | some h => exact ih _ _ (by split <;> omega)
       have := key r (e || p.ext) (if g.height < least then g.height else least) (by split <;> omega)
       exact this.symm
     · rw [if_neg hle]
       exact rparts_eq hok ov r _ _ (by split <;> omega)
theorem rstretchOk_eq {f : Font} (hok : ∀ g ∈ f.glyphs, glyphOk g = true) (s : Stretch) : rstretchOk f s = stretchOk f.ht s := by
 unfold rstretchOk stretchOk
 rw [rsizes_eq hok s.sizes 0 0 (-60000) (fun h => absurd h (by omega)) (fun _ => by omega)]
 have e1 : (nameB s.name && (decide (1 ≤ s.sizes.length) && (decide (s.sizes.length ≤ 16) && decide (s.parts.length ≤ 8)))) = (nameB s.name && (inB 1 16 [(s.sizes.length : Int)] && decide (s.parts.length ≤ 8))) := by
  congr 1
  rw [Bool.eq_iff_iff]
  simp [inB]
  omega
 rw [e1]
 congr 2
 split
 · rfl
 · rename_i hp
   unfold partsOk
   by_cases ho : s.overlap < 60000
   · exact rparts_eq hok s.overlap s.parts false 60000 ho
   ·
     obtain ⟨p, r, hpr⟩ := List.exists_cons_of_ne_nil hp
     rw [hpr]
     simp only [rparts, partsFold, Font.ht]
     cases hf : f.find p.name with
     | none => rfl
     | some g =>
       obtain ⟨b1, b2, _⟩ := height_small hok hf
       simp only [Option.map_some]
       rw [if_pos (by omega)]
       have key : ∀ (l : List Part) (e : Bool) (m : Int), m ≤ s.overlap → (match partsFold f.ht m e l with | none => false | some (m, e) => e && inB 0 (m - 1) [s.overlap]) = false := by
        intro l
        induction l with
        | nil => intro e m hm; simp [partsFold, inB]; omega
        | cons p l ih =>
          intro e m hm
          simp only [partsFold]
          cases f.ht p.name with
          | none => rfl
          | some h => exact ih _ _ (by split <;> omega)
       have := key r (false || p.ext) (if g.height < 60000 then g.height else 60000) (by split <;> omega)
       exact this.symm
set_option maxHeartbeats 3200000 in
theorem rstretch1_a (f : Font) (s : Stretch) (hok : ∀ g ∈ f.glyphs, glyphOk g = true) (hgl : f.glyphs.length ≤ maxLen) (hn : s.name.size ≤ maxLen) : AC Tryz.prog 52 [.agg f.vs, stretchV s] (.c (.bool (rstretchOk f s))) := by
 have hS : rstretchOk f s = ((nameB s.name && (decide (1 ≤ s.sizes.length) && (decide (s.sizes.length ≤ 16) && decide (s.parts.length ≤ 8)))) && (rsizes f 0 0 s.sizes && (if s.parts = [] then decide (s.overlap = 0) else match rparts f s.overlap false s.parts with
  | none => false
  | some e => e && decide (0 ≤ s.overlap)))) := rfl
 unfold stretchV
 cases c1 : nameB s.name with
 | false =>
   have e : rstretchOk f s = false := by rw [hS, c1]; rfl
   refine AC.intro Tryz.func52 rfl ?_
   simp only [Tryz.ntmps52, List.map_cons, List.map_nil, List.length_cons, List.length_nil, Nat.reduceAdd, Nat.reduceSub, List.replicate_succ, List.replicate_zero, List.cons_append, List.nil_append, Stretch.row]
   refine go0 ?_
   refine gc @c1 (name_a s.name hn) Tryz.func55 ?_
   refine go0 ?_
   simp [aRet, ares, aresL, ares1, V.pub, V.pubs, ldV, Tryz.results52, e]
 | true =>
   by_cases c2 : (s.sizes.length : Int) < 1
   · have e : rstretchOk f s = false := by rw [hS, decide_eq_false (show ¬ 1 ≤ s.sizes.length by omega)]; simp
     refine AC.intro Tryz.func52 rfl ?_
     simp only [Tryz.ntmps52, List.map_cons, List.map_nil, List.length_cons, List.length_nil, Nat.reduceAdd, Nat.reduceSub, List.replicate_succ, List.replicate_zero, List.cons_append, List.nil_append, Stretch.row]
     refine go0 ?_
     refine gc (cj @c1 <| cj @c2 <| @sizesC.eq_1) (name_a s.name hn) Tryz.func55 ?_
     refine go0 ?_
     simp [aRet, ares, aresL, ares1, V.pub, V.pubs, ldV, Tryz.results52, e]
   · by_cases c3 : (16 : Int) < (s.sizes.length : Int)
     · have e : rstretchOk f s = false := by rw [hS, decide_eq_false (show ¬ s.sizes.length ≤ 16 by omega)]; simp
       refine AC.intro Tryz.func52 rfl ?_
       simp only [Tryz.ntmps52, List.map_cons, List.map_nil, List.length_cons, List.length_nil, Nat.reduceAdd, Nat.reduceSub, List.replicate_succ, List.replicate_zero, List.cons_append, List.nil_append, Stretch.row]
       refine go0 ?_
       refine gc (cj @c1 <| cj @c2 <| cj @c3 <| @sizesC.eq_1) (name_a s.name hn) Tryz.func55 ?_
       refine go0 ?_
       simp [aRet, ares, aresL, ares1, V.pub, V.pubs, ldV, Tryz.results52, e]
     · by_cases c4 : (8 : Int) < (s.parts.length : Int)
       · have e : rstretchOk f s = false := by rw [hS, decide_eq_false (show ¬ s.parts.length ≤ 8 by omega)]; simp
         refine AC.intro Tryz.func52 rfl ?_
         simp only [Tryz.ntmps52, List.map_cons, List.map_nil, List.length_cons, List.length_nil, Nat.reduceAdd, Nat.reduceSub, List.replicate_succ, List.replicate_zero, List.cons_append, List.nil_append, Stretch.row]
         refine go0 ?_
         refine gc (cj @c1 <| cj @c2 <| cj @c3 <| cj @c4 <| cj @sizesC.eq_1 <| @partsC.eq_1) (name_a s.name hn) Tryz.func55 ?_
         refine go0 ?_
         simp [aRet, ares, aresL, ares1, V.pub, V.pubs, ldV, Tryz.results52, e]
       · have hS2 : rstretchOk f s = (rsizes f 0 0 s.sizes && (if s.parts = [] then decide (s.overlap = 0) else match rparts f s.overlap false s.parts with
          | none => false
          | some e => e && decide (0 ≤ s.overlap))) := by
          rw [hS, c1, decide_eq_true (show 1 ≤ s.sizes.length by omega), decide_eq_true (show s.sizes.length ≤ 16 by omega), decide_eq_true (show s.parts.length ≤ 8 by omega)]
          rfl
         refine AC.intro Tryz.func52 rfl ?_
         simp only [Tryz.ntmps52, List.map_cons, List.map_nil, List.length_cons, List.length_nil, Nat.reduceAdd, Nat.reduceSub, List.replicate_succ, List.replicate_zero, List.cons_append, List.nil_append, Stretch.row]
         refine go0 ?_
         refine gc (cj @c1 <| cj @c2 <| cj @c3 <| cj @c4 <| cj @sizesC.eq_1 <| @partsC.eq_1) (name_a s.name hn) Tryz.func55 ?_
         refine go0 ?_
         refine lp (ι := { q : Nat × Int // q.1 ≤ s.sizes.length ∧ rsizes f 0 0 s.sizes = rsizes f q.1 q.2 (s.sizes.drop q.1) }) (fun q => [(6, .c (.int .i64 (q.1.1 : Int))), (5, .c (.int .i64 q.1.2)), (4, .c (.bool false))]) (fun _ => [.box 27 f.vs false, .box 61 (s.row.map V.c) false]) (fun q => s.sizes.length - q.1.1) ⟨(0, 0), by simp⟩ ?_ ?_
         all_goals simp only [puts, List.foldl_cons, List.foldl_nil, List.set_cons_zero, List.set_cons_succ]
         · refine Le.weak (by simp [subT, Stretch.row, sizesC, partsC])
         · rintro ⟨⟨k, last⟩, hk, hI⟩
           simp only at hk hI ⊢
           by_cases hlt : k < s.sizes.length
           · obtain ⟨n, hn⟩ : ∃ n, s.sizes[k] = n := ⟨_, rfl⟩
             rw [List.drop_eq_getElem_cons hlt, hn] at hI
             simp only [rsizes] at hI
             have hw : IntKind.i64.wrap ((k : Int) + 1) = ((k + 1 : Nat) : Int) := by rw [wrap_i64 (by omega) (by omega)]; simp
             cases hf : f.find n with
             | none =>
               rw [hf] at hI
               have e : rstretchOk f s = false := by rw [hS2, hI]; rfl
               refine go (cj @hlt <| cj @hn <| cj @Stretch.row.eq_1 <| @sizesC.eq_1) ?_
               refine gc (cj @foundV.eq_1 <| cj @hf <| cj @Glyph.row.eq_1 <| @Glyph.zero.eq_1) (rfind_a f n hgl) Tryz.func75 ?_
               refine go0 ?_
               simp [aRet, ares, aresL, ares1, V.pub, V.pubs, ldV, Tryz.results52, e]
             | some g =>
               rw [hf] at hI
               obtain ⟨b1, b2, b3⟩ := height_small hok hf
               rcases Nat.eq_zero_or_pos k with k0 | k0
               · subst k0
                 have hw1 : IntKind.i64.wrap 1 = 1 := wrap_i64 (by omega) (by omega)
                 simp only [Nat.lt_irrefl, decide_false, Bool.false_and, Bool.not_false, Bool.true_and] at hI
                 refine go (cj @hlt <| cj @hn <| cj @Stretch.row.eq_1 <| @sizesC.eq_1) ?_
                 refine gc (cj @foundV.eq_1 <| cj @hf <| @Glyph.row.eq_1) (rfind_a f n hgl) Tryz.func75 ?_
                 refine go0 ?_
                 refine gc (cj @b3 <| cj @glyphV.eq_1 <| @Glyph.row.eq_1) (rheight_a g) Tryz.func76 ?_
                 refine go @hw1 ?_
                 refine ⟨⟨(1, g.height), by omega, hI⟩, by simp only; omega, ?_⟩
                 refine Le.wdrop 2 (Nat.le_of_ble_eq_true rfl) (by simp [subT, Stretch.row, sizesC, partsC]) (by simp [Stretch.row, sizesC, partsC]) (by simp [V.bnds, V.bnd]) (by simp [O.bnd, V.bnds, V.bnd, Stretch.row, sizesC, partsC])
               · have k0' : (0 : Int) < (k : Int) := by omega
                 by_cases hle : g.height ≤ last
                 · have e : rstretchOk f s = false := by rw [hS2, hI]; simp [hle, k0]
                   refine go (cj @hlt <| cj @hn <| cj @Stretch.row.eq_1 <| @sizesC.eq_1) ?_
                   refine gc (cj @foundV.eq_1 <| cj @hf <| @Glyph.row.eq_1) (rfind_a f n hgl) Tryz.func75 ?_
                   refine go (cj @k0 <| @k0') ?_
                   refine gc (cj @b3 <| cj @glyphV.eq_1 <| cj @Glyph.row.eq_1 <| cj @k0 <| cj @k0' <| @hle) (rheight_a g) Tryz.func76 ?_
                   refine go0 ?_
                   simp [aRet, ares, aresL, ares1, V.pub, V.pubs, ldV, Tryz.results52, e]
                 · have hI2 : rsizes f 0 0 s.sizes = rsizes f (k + 1) g.height (s.sizes.drop (k + 1)) := by rw [hI]; simp [hle]
                   refine go (cj @hlt <| cj @hn <| cj @Stretch.row.eq_1 <| @sizesC.eq_1) ?_
                   refine gc (cj @foundV.eq_1 <| cj @hf <| @Glyph.row.eq_1) (rfind_a f n hgl) Tryz.func75 ?_
                   refine go (cj @k0 <| @k0') ?_
                   refine gc (cj @b3 <| cj @glyphV.eq_1 <| cj @Glyph.row.eq_1 <| cj @k0 <| cj @k0' <| @hle) (rheight_a g) Tryz.func76 ?_
                   refine go0 ?_
                   refine gc (cj @b3 <| cj @glyphV.eq_1 <| @Glyph.row.eq_1) (rheight_a g) Tryz.func76 ?_
                   refine go @hw ?_
                   refine ⟨⟨(k + 1, g.height), by omega, hI2⟩, by simp only; omega, ?_⟩
                   refine Le.wdrop 2 (Nat.le_of_ble_eq_true rfl) (by simp [subT, Stretch.row, sizesC, partsC]) (by simp [Stretch.row, sizesC, partsC]) (by simp [V.bnds, V.bnd]) (by simp [O.bnd, V.bnds, V.bnd, Stretch.row, sizesC, partsC])
           · have e : rsizes f 0 0 s.sizes = true := by rw [hI, List.drop_of_length_le (by omega)]; rfl
             rw [e, Bool.true_and] at hS2
             by_cases hp : s.parts = []
             · have hp0 : s.parts.length = 0 := by rw [hp]; rfl
               rw [if_pos hp] at hS2
               refine go (cj @hlt <| cj @Stretch.row.eq_1 <| cj @sizesC.eq_1 <| cj @partsC.eq_1 <| @hp) ?_
               simp [aRet, ares, aresL, ares1, V.pub, V.pubs, ldV, Tryz.results52, hS2]
             · have hp0 : ¬ s.parts.length = 0 := fun h => hp (List.eq_nil_of_length_eq_zero h)
               rw [if_neg hp] at hS2
               refine go (cj @hlt <| cj @Stretch.row.eq_1 <| cj @sizesC.eq_1 <| cj @partsC.eq_1 <| @hp) ?_
               refine lp (ι := { q : Nat × Bool // q.1 ≤ s.parts.length ∧ rparts f s.overlap false s.parts = rparts f s.overlap q.2 (s.parts.drop q.1) }) (fun q => [(10, .c (.int .i64 (q.1.1 : Int))), (9, .c (.bool q.1.2)), (4, .c (.bool false))]) (fun _ => [.box 27 f.vs false, .box 61 (s.row.map V.c) false]) (fun q => s.parts.length - q.1.1) ⟨(0, false), by simp⟩ ?_ ?_
               all_goals simp only [puts, List.foldl_cons, List.foldl_nil, List.set_cons_zero, List.set_cons_succ]
               · refine Le.weak (by simp [subT, Stretch.row, sizesC, partsC])
               · rintro ⟨⟨j, ext⟩, hj, hJ⟩
                 simp only at hj hJ ⊢
                 by_cases hjl : j < s.parts.length
                 · obtain ⟨q, hq⟩ : ∃ q, s.parts[j] = q := ⟨_, rfl⟩
                   rw [List.drop_eq_getElem_cons hjl, hq] at hJ
                   simp only [rparts] at hJ
                   have hw : IntKind.i64.wrap ((j : Int) + 1) = ((j + 1 : Nat) : Int) := by rw [wrap_i64 (by omega) (by omega)]; simp
                   cases hf : f.find q.name with
                   | none =>
                     rw [hf] at hJ
                     have e : rstretchOk f s = false := by rw [hS2, hJ]
                     refine go (cj @hjl <| cj @hq <| cj @Stretch.row.eq_1 <| cj @partsC.eq_1 <| @Part.row.eq_1) ?_
                     refine gc (cj @foundV.eq_1 <| cj @hf <| cj @Glyph.row.eq_1 <| @Glyph.zero.eq_1) (rfind_a f q.name hgl) Tryz.func75 ?_
                     refine go0 ?_
                     simp [aRet, ares, aresL, ares1, V.pub, V.pubs, ldV, Tryz.results52, e]
                   | some g =>
                     rw [hf] at hJ
                     obtain ⟨b1, b2, b3⟩ := height_small hok hf
                     by_cases hle : g.height ≤ s.overlap
                     · have e : rstretchOk f s = false := by rw [hS2, hJ]; simp [hle]
                       refine go (cj @hjl <| cj @hq <| cj @Stretch.row.eq_1 <| cj @partsC.eq_1 <| @Part.row.eq_1) ?_
                       refine gc (cj @foundV.eq_1 <| cj @hf <| @Glyph.row.eq_1) (rfind_a f q.name hgl) Tryz.func75 ?_
                       refine go @Stretch.row.eq_1 ?_
                       refine gc (cj @b3 <| cj @glyphV.eq_1 <| cj @Glyph.row.eq_1 <| @hle) (rheight_a g) Tryz.func76 ?_
                       refine go0 ?_
                       simp [aRet, ares, aresL, ares1, V.pub, V.pubs, ldV, Tryz.results52, e]
                     · have hJ2 : rparts f s.overlap false s.parts = rparts f s.overlap (ext || q.ext) (s.parts.drop (j + 1)) := by rw [hJ]; simp [hle]
                       cases ext with
                       | true =>
                         refine go (cj @hjl <| cj @hq <| cj @Stretch.row.eq_1 <| cj @partsC.eq_1 <| @Part.row.eq_1) ?_
                         refine gc (cj @foundV.eq_1 <| cj @hf <| @Glyph.row.eq_1) (rfind_a f q.name hgl) Tryz.func75 ?_
                         refine go @Stretch.row.eq_1 ?_
                         refine gc (cj @b3 <| cj @glyphV.eq_1 <| cj @Glyph.row.eq_1 <| @hle) (rheight_a g) Tryz.func76 ?_
                         refine go @hw ?_
                         refine ⟨⟨(j + 1, true), by omega, by simpa using hJ2⟩, by simp only; omega, ?_⟩
                         refine Le.wdrop 2 (Nat.le_of_ble_eq_true rfl) (by simp [subT, Stretch.row, sizesC, partsC]) (by simp [Stretch.row, sizesC, partsC]) (by simp [V.bnds, V.bnd]) (by simp [O.bnd, V.bnds, V.bnd, Stretch.row, sizesC, partsC])
                       | false =>
                         refine go (cj @hjl <| cj @hq <| cj @Stretch.row.eq_1 <| cj @partsC.eq_1 <| @Part.row.eq_1) ?_
                         refine gc (cj @foundV.eq_1 <| cj @hf <| @Glyph.row.eq_1) (rfind_a f q.name hgl) Tryz.func75 ?_
                         refine go @Stretch.row.eq_1 ?_
                         refine gc (cj @b3 <| cj @glyphV.eq_1 <| cj @Glyph.row.eq_1 <| @hle) (rheight_a g) Tryz.func76 ?_
                         refine go (cj @hw <| cj @hjl <| cj @hq <| cj @partsC.eq_1 <| @Part.row.eq_1) ?_
                         refine ⟨⟨(j + 1, q.ext), by omega, by simpa using hJ2⟩, by simp only; omega, ?_⟩
                         refine Le.wdrop 2 (Nat.le_of_ble_eq_true rfl) (by simp [subT, Stretch.row, sizesC, partsC]) (by simp [Stretch.row, sizesC, partsC]) (by simp [V.bnds, V.bnd]) (by simp [O.bnd, V.bnds, V.bnd, Stretch.row, sizesC, partsC])
                 · have e2 : rparts f s.overlap false s.parts = some ext := by rw [hJ, List.drop_of_length_le (by omega)]; rfl
                   rw [e2] at hS2
                   simp only at hS2
                   cases ext with
                   | true =>
                     refine go (cj @hjl <| cj @Stretch.row.eq_1 <| @partsC.eq_1) ?_
                     simp [aRet, ares, aresL, ares1, V.pub, V.pubs, ldV, Tryz.results52, hS2]
                   | false =>
                     refine go (cj @hjl <| cj @Stretch.row.eq_1 <| @partsC.eq_1) ?_
                     simp [aRet, ares, aresL, ares1, V.pub, V.pubs, ldV, Tryz.results52, hS2]
end Go.Proofs.YthbcljjpmdfflaaGreat
namespace Go.Proofs.YthbcljjpmdfflaaGreat
open Go.RowKit
set_option linter.unusedSimpArgs false
set_option linter.unusedVariables false
set_option maxRecDepth 100000
structure Font.Fit (f : Font) : Prop where
 gl : f.glyphs.length ≤ maxLen
 sl : f.stretches.length ≤ maxLen
 gn : ∀ g ∈ f.glyphs, g.name.size ≤ maxLen
 sn : ∀ s ∈ f.stretches, s.name.size ≤ maxLen
theorem glyphsOk_mem : ∀ (l seen : List Glyph), glyphsOk seen l = true → ∀ g ∈ l, glyphOk g = true
 | [], _, _, g, hg => by cases hg
 | x :: r, seen, h, g, hg => by
   simp only [glyphsOk, Bool.and_eq_true] at h
   rcases List.mem_cons.1 hg with rfl | hg
   · exact h.1.1
   · exact glyphsOk_mem r _ h.2 g hg
set_option maxHeartbeats 3200000 in
theorem rvalid_a (f : Font) (hf : f.Fit) : AC Tryz.prog 23 [.agg f.vs] (.c (.bool f.valid)) := by
 have hV : f.valid = ((decide (f.glyphs.length ≤ 400) && (decide (f.stretches.length ≤ 40) && paramsOk f.params)) && (glyphsOk [] f.glyphs && stretchesOk f.ht [] f.stretches)) := rfl
 by_cases c1 : (400 : Int) < (f.glyphs.length : Int)
 · have e : f.valid = false := by rw [hV, decide_eq_false (show ¬ f.glyphs.length ≤ 400 by omega)]; rfl
   refine en Tryz.func23 Tryz.ntmps23 ?_
   refine go (cj @c1 <| @glyphsC.eq_1) ?_
   simp [aRet, ares, aresL, ares1, V.pub, V.pubs, ldV, Tryz.results23, e]
 · by_cases c2 : (40 : Int) < (f.stretches.length : Int)
   · have e : f.valid = false := by rw [hV, decide_eq_false (show ¬ f.stretches.length ≤ 40 by omega)]; simp
     refine en Tryz.func23 Tryz.ntmps23 ?_
     refine go (cj @c1 <| cj @c2 <| cj @glyphsC.eq_1 <| @stretchesC.eq_1) ?_
     simp [aRet, ares, aresL, ares1, V.pub, V.pubs, ldV, Tryz.results23, e]
   · cases c3 : paramsOk f.params with
     | false =>
       have e : f.valid = false := by rw [hV, c3]; simp
       refine en Tryz.func23 Tryz.ntmps23 ?_
       refine go (cj @c1 <| cj @c2 <| cj @glyphsC.eq_1 <| @stretchesC.eq_1) ?_
       refine gc (cj @c3 <| cj @Params.vs.eq_1 <| @Params.list.eq_1) (params_a f.params) Tryz.func50 ?_
       refine go0 ?_
       simp [aRet, ares, aresL, ares1, V.pub, V.pubs, ldV, Tryz.results23, e]
     | true =>
       cases c4 : glyphsOk [] f.glyphs with
       | false =>
         have e : f.valid = false := by rw [hV, c4]; simp
         refine en Tryz.func23 Tryz.ntmps23 ?_
         refine go (cj @c1 <| cj @c2 <| cj @glyphsC.eq_1 <| @stretchesC.eq_1) ?_
         refine gc (cj @c3 <| cj @Params.vs.eq_1 <| @Params.list.eq_1) (params_a f.params) Tryz.func50 ?_
         refine gc @c4 (glyphs_a f.glyphs (by omega) hf.gn) Tryz.func51 ?_
         refine go0 ?_
         simp [aRet, ares, aresL, ares1, V.pub, V.pubs, ldV, Tryz.results23, e]
       | true =>
         have hok := glyphsOk_mem _ _ c4
         have hV2 : f.valid = stretchesOk f.ht [] f.stretches := by
          rw [hV, decide_eq_true (show f.glyphs.length ≤ 400 by omega), decide_eq_true (show f.stretches.length ≤ 40 by omega), c3, c4]
          rfl
         refine en Tryz.func23 Tryz.ntmps23 ?_
         refine go (cj @c1 <| cj @c2 <| cj @glyphsC.eq_1 <| @stretchesC.eq_1) ?_
         refine gc (cj @c3 <| cj @Params.vs.eq_1 <| @Params.list.eq_1) (params_a f.params) Tryz.func50 ?_
         refine gc @c4 (glyphs_a f.glyphs (by omega) hf.gn) Tryz.func51 ?_
         refine go0 ?_
         refine lp (ι := { k : Nat // k ≤ f.stretches.length ∧ f.valid = stretchesOk f.ht (f.stretches.take k) (f.stretches.drop k) }) (fun k => [(3, .c (.int .i64 (k.1 : Int))), (2, .c (.bool false))]) (fun _ => [.box 27 f.vs false]) (fun k => f.stretches.length - k.1) ⟨0, by simpa using hV2⟩ ?_ ?_
         all_goals simp only [puts, List.foldl_cons, List.foldl_nil, List.set_cons_zero, List.set_cons_succ]
         · refine Le.weak (by simp [subT])
         · rintro ⟨k, hk, hI⟩
           by_cases hlt : k < f.stretches.length
           · obtain ⟨s, hs⟩ : ∃ s, f.stretches[k] = s := ⟨_, rfl⟩
             have hns := hf.sn f.stretches[k] (List.getElem_mem hlt)
             rw [hs] at hns
             have htk : f.stretches.take k ++ [s] = f.stretches.take (k + 1) := by rw [List.take_succ_eq_append_getElem hlt, hs]
             rw [List.drop_eq_getElem_cons hlt, hs] at hI
             simp only [stretchesOk] at hI
             rw [htk, ← rstretchOk_eq hok] at hI
             have hw : IntKind.i64.wrap ((k : Int) + 1) = ((k + 1 : Nat) : Int) := by rw [wrap_i64 (by omega) (by omega)]; simp
             cases c5 : rstretchOk f s with
             | false =>
               rw [c5] at hI
               simp only [Bool.false_and] at hI
               refine go (cj @hlt <| cj @hs <| cj @stretchesC.eq_1 <| @Stretch.row.eq_1) ?_
               refine gc (cj @c5 <| cj @stretchV.eq_1 <| @Stretch.row.eq_1) (rstretch1_a f s hok hf.gl hns) Tryz.func52 ?_
               refine go0 ?_
               simp [aRet, ares, aresL, ares1, V.pub, V.pubs, ldV, Tryz.results23, hI]
             | true =>
               rw [c5, Bool.true_and] at hI
               refine go (cj @hlt <| cj @hs <| cj @stretchesC.eq_1 <| @Stretch.row.eq_1) ?_
               refine gc (cj @c5 <| cj @stretchV.eq_1 <| @Stretch.row.eq_1) (rstretch1_a f s hok hf.gl hns) Tryz.func52 ?_
               refine go0 ?_
               refine lp (ι := { j : Nat // j ≤ k ∧ hasStretch s.name (f.stretches.take k) = hasStretch s.name ((f.stretches.take k).drop j) }) (fun j => [(4, .c (.int .i64 (j.1 : Int))), (2, .c (.bool false))]) (fun _ => [.box 27 f.vs false]) (fun j => k - j.1) ⟨0, by simp⟩ ?_ ?_
               all_goals simp only [puts, List.foldl_cons, List.foldl_nil, List.set_cons_zero, List.set_cons_succ]
               · refine Le.weak (by simp [subT])
               · rintro ⟨j, hj, hJ⟩
                 by_cases hjl : j < k
                 · have hj2 : j < f.stretches.length := by omega
                   obtain ⟨q, hq⟩ : ∃ q, f.stretches[j] = q := ⟨_, rfl⟩
                   have hd : (f.stretches.take k).drop j = q :: (f.stretches.take k).drop (j + 1) := by
                    rw [List.drop_eq_getElem_cons (by simp; omega)]
                    simp [hq]
                   rw [hd] at hJ
                   simp only [hasStretch] at hJ
                   by_cases he : q.name = s.name
                   · have e : f.valid = false := by rw [hI, hJ, decide_eq_true he]; rfl
                     refine go (cj @hjl <| cj @hj2 <| cj @hq <| cj @hlt <| cj @hs <| cj @he <| cj @stretchesC.eq_1 <| @Stretch.row.eq_1) ?_
                     simp [aRet, ares, aresL, ares1, V.pub, V.pubs, ldV, Tryz.results23, e]
                   · have hw2 : IntKind.i64.wrap ((j : Int) + 1) = ((j + 1 : Nat) : Int) := by rw [wrap_i64 (by omega) (by omega)]; simp
                     refine go (cj @hjl <| cj @hj2 <| cj @hq <| cj @hlt <| cj @hs <| cj @he <| cj @stretchesC.eq_1 <| cj @Stretch.row.eq_1 <| @hw2) ?_
                     refine ⟨⟨j + 1, by omega, by rw [hJ, decide_eq_false he, Bool.false_or]⟩, by simp only; omega, ?_⟩
                     refine Le.weak (by simp [subT])
                 · have e : hasStretch s.name (f.stretches.take k) = false := by rw [hJ, List.drop_of_length_le (by simp; omega)]; rfl
                   refine go (cj @hjl <| @hw) ?_
                   refine ⟨⟨k + 1, by omega, by rw [hI, e]; rfl⟩, by simp only; omega, ?_⟩
                   refine Le.weak (by simp [subT])
           · have e : f.valid = true := by rw [hI, List.drop_of_length_le (by omega)]; rfl
             refine go (cj @hlt <| @stretchesC.eq_1) ?_
             simp [aRet, ares, aresL, ares1, V.pub, V.pubs, ldV, Tryz.results23, e]
end Go.Proofs.YthbcljjpmdfflaaGreat
