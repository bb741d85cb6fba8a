/-
 Layer 31's laws: the example; Need, Make, Middle.
-/
import Derived.Test.YthbcljjpmdfflaaGreatEl
namespace Go.Proofs.YthbcljjpmdfflaaGreat
open Go.RowKit
set_option linter.unusedSimpArgs false
set_option linter.unusedVariables false
set_option maxRecDepth 100000
def cdVs (f : Font) (p : Int) : List V := f.vs ++ [.c (.int .i64 p)]
section
variable (f : Font) (p : Int)
@[simp] theorem cd_len : (cdVs f p).length = 23 := by simp [cdVs]
@[simp] theorem cd_flat : (cdVs f p).all V.one = true := by simp [cdVs, V.one]
@[simp] theorem cd_take : (cdVs f p).take 23 = cdVs f p := List.take_of_length_le (by simp)
@[simp] theorem cd_f : (cdVs f p).take 22 = f.vs := rfl
@[simp] theorem cd_p : (cdVs f p)[22]? = some (.c (.int .i64 p)) := rfl
@[simp] theorem cd_pg (h : 22 < (cdVs f p).length) : (cdVs f p)[22]'h = .c (.int .i64 p) := rfl
@[simp] theorem cd_a : (cdVs f p)[4]? = some (.c (.int .i64 f.params.axis)) := rfl
@[simp] theorem cd_ag (h : 4 < (cdVs f p).length) : (cdVs f p)[4]'h = .c (.int .i64 f.params.axis) := rfl
@[simp] theorem cd_q : (cdVs f p)[19]? = some (.c (.int .i64 f.params.delimPercent)) := rfl
@[simp] theorem cd_qg (h : 19 < (cdVs f p).length) : (cdVs f p)[19]'h = .c (.int .i64 f.params.delimPercent) := rfl
@[simp] theorem cd_s : (cdVs f p)[20]? = some (.c (.int .i64 f.params.delimShort)) := rfl
@[simp] theorem cd_sg (h : 20 < (cdVs f p).length) : (cdVs f p)[20]'h = .c (.int .i64 f.params.delimShort) := rfl
@[simp] theorem cd_pubs : V.pubs (cdVs f p) = some (cdVs f p) := by
 have : cdVs f p = (f.row ++ [C.int .i64 p]).map V.c := by simp [cdVs, Font.vs]
 rw [this]; exact pubs_c _
@[simp] theorem cd_put (cs : List V) (h : cs.length = 23) : putL cs 0 (cdVs f p) = cdVs f p := putL_all (by simp [h])
@[simp] theorem cd_bnds (n : Nat) : V.bnds n (cdVs f p) = true := by simp [cdVs, Font.vs, Font.row, Params.list, V.bnds, V.bnd]
end
def exDf : Font := ⟨[⟨⟨#[40]⟩, 300, 750, 250, 0, 0⟩], [], ⟨0, 0, 250, 0, 0, 0, 0, 0, 0, 0, 0, 0, 0, 0, 0, 70, 50, 90, 500, 0⟩⟩
def exDb : Box := ruleB 100 700 300
theorem exDf_fit : exDf.Fit := by
 refine ⟨by simp [exDf, maxLen], by simp [exDf, maxLen], ?_, ?_⟩
 · intro g hg
   simp only [exDf, List.mem_cons, List.not_mem_nil, or_false] at hg
   subst hg
   exact of_decide_eq_true (by kernel_rfl)
 · intro g hg
   simp only [exDf, List.not_mem_nil] at hg
theorem exDf_sz : ∀ s ∈ exDf.stretches, s.sizes.length ≤ 1000 := by intro s hs; cases hs
theorem example31_a : AC Tryz.prog 12 [] (.agg exDf.vs) := by
 refine en Tryz.func12 Tryz.ntmps12 ?_
 refine go0 ?_
 simp [aRet, ares, aresL, ares1, V.pub, V.pubs, ldV, Tryz.results12, Font.vs, Font.row, exDf, glyphsC, stretchesC, Glyph.row, Stretch.row, Params.list, sizesC, partsC, Part.row]
theorem exD_m : ∃ B, dlMake exDf ⟨#[40]⟩ 990 100 = (B, 0) ∧ B.y = 0 ∧ B.h = 750 := ⟨(dlMake exDf ⟨#[40]⟩ 990 100).1, by kernel_rfl, by kernel_rfl, by kernel_rfl⟩
theorem exD_f : ∃ L, fenceR exDf ⟨#[40, 46]⟩ exDb 100 = (L, 0) ∧ L.kids.length = 3 ∧ L.w = 400 ∧ L.h = 750 ∧ L.d = 300 := ⟨(fenceR exDf ⟨#[40, 46]⟩ exDb 100).1, by kernel_rfl, by kernel_rfl, by kernel_rfl, by kernel_rfl, by kernel_rfl⟩
theorem exD_n : dlNeed exDf exDb 100 = 990 := by kernel_rfl
set_option maxHeartbeats 3200000 in
theorem awake31_a : AC Tryz.prog 4 [] (.c (.bool true)) := by
 have h1 := rrule_a 100 700 300
 have h2 := pmk31_a exDf ⟨#[40]⟩ 990 100 exDf_fit (of_decide_eq_true (by kernel_rfl)) exDf_sz
 have h3 := pfence_a exDf ⟨#[40, 46]⟩ exDb 100 exDf_fit exDf_sz (rule_okk _ _ _) (by rw [exDb, rule_cnt]; omega) (of_decide_eq_true (by kernel_rfl))
 have h4 := pneed31_a exDf exDb 100 exDf_fit (rule_okk _ _ _) (by rw [exDb, rule_cnt]; omega)
 obtain ⟨B, e1, e2, e3⟩ := exD_m
 obtain ⟨L, f1, f2, f3, f4, f5⟩ := exD_f
 rw [e1] at h2
 rw [f1] at h3
 rw [exD_n] at h4
 have hl : (Box.rows L.kids).length = 3 := by rw [rows_map, List.length_map]; exact f2
 have hb : ruleB 100 700 300 = exDb := rfl
 rw [hb] at h1
 obtain ⟨X, hX⟩ : ∃ X, exDb = X := ⟨_, rfl⟩
 rw [hX] at h1 h3 h4
 simp only [boxEV, boxV_vs, errV] at h1 h2 h3 h4
 refine en Tryz.func4 Tryz.ntmps4 ?_
 have ff := (cj @e2 <| cj @e3 <| cj @hl <| cj @f3 <| cj @f4 <| cj @f5 <| Tryz.results4)
 repeat any_goals (first | refine stW ?_ | exact lfW ff | refine ruW ff ?_ | refine caW ff (h1) ?_ | refine caW ff (example31_a) ?_ | refine caW ff (h2) ?_ | refine caW ff (h3) ?_ | refine caW ff (h4) ?_ | refine cdW ff ?_ | ((first | refine bdW ff ?_ ?_ | refine bxW ff ?_ ?_ | refine bnW ff ?_ ?_ | refine brW ff ?_ ?_) <;> intro h <;> try (exfalso; omega)))
set_option maxHeartbeats 1600000 in
theorem dfew_a (f : Font) (b : Box) (hf : f.Fit) (hb : b.fit) : AC Tryz.prog 5 [.agg f.vs, boxV b] (.c (.bool (fewB f && decide (b.cnt ≤ 400)))) := by
 have h1 := few_a f hf.gl
 have h2 := rbfew4_a b hb
 simp only [boxV_vs] at h2 ⊢
 refine en Tryz.func5 Tryz.ntmps5 ?_
 have ff := (Tryz.results5)
 repeat any_goals (first | refine stW ?_ | exact lfW ff | refine ruW ff ?_ | refine caW ff (h1) ?_ | refine caW ff (h2) ?_ | refine cdW ff ?_ | ((first | refine bdW ff ?_ ?_ | refine bxW ff ?_ ?_ | refine bnW ff ?_ ?_ | refine brW ff ?_ ?_) <;> intro h <;> try (exfalso; omega)))
def lowB (b : Box) : Bool := (decide (b.h ≤ 1500) && decide (b.d ≤ 1500)) || !b.validB
set_option maxHeartbeats 1600000 in
theorem dlow_a (b : Box) (ho : b.okk) (hc : b.cnt ≤ 1000000) : AC Tryz.prog 6 [boxV b] (.c (.bool (lowB b))) := by
 have h1 := rbvalid_a b ho hc
 simp only [boxV_vs] at h1 ⊢
 unfold lowB
 refine en Tryz.func6 Tryz.ntmps6 ?_
 have ff := (Tryz.results6)
 repeat any_goals (first | refine stW ?_ | exact lfW ff | refine ruW ff ?_ | refine caW ff (h1) ?_ | refine cdW ff ?_ | ((first | refine bdW ff ?_ ?_ | refine bxW ff ?_ ?_ | refine bnW ff ?_ ?_ | refine brW ff ?_ ?_) <;> intro h <;> try (exfalso; omega)))
theorem few_and {f : Font} {b : Box} (h : (fewB f && decide (b.cnt ≤ 400)) = true) : fewB f = true ∧ b.cnt ≤ 400 := by simpa using h
theorem dlMake_fit (f : Font) (name : ByteArray) (need p : Int) : (dlMake f name need p).1.fit := by
 by_cases h : f.valid = false ∨ nameB name = false
 · have e : dlMake f name need p = (Box.zero, 1) := if_pos h
   rw [e]; exact zero_fit
 · by_cases h2 : p < 1 ∨ 100 < p
   · have e : dlMake f name need p = (Box.zero, 2) := by unfold dlMake; rw [if_neg h, if_pos h2]
     rw [e]; exact zero_fit
   · simp only [not_or, Bool.not_eq_false] at h
     rcases dlMake_ok (p := p) h.1 (by omega) (by omega) h.2 need with ⟨_, e⟩ | ⟨_, S, hs, _, _, _, _, e⟩
     · rw [e]; exact ⟨(Nat.zero_le _ : 0 ≤ maxLen), (Nat.zero_le _ : 0 ≤ maxLen), trivial⟩
     · rw [e]; exact at_fit _ _ hs.fit
end Go.Proofs.YthbcljjpmdfflaaGreat
