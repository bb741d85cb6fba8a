/-
 Layer 33's laws: the reference's Make, the example, small cases.
-/
import Derived.Test.YthbcljjpmdfflaaDf
import Derived.Test.YthbcljjpmdfflaaDg
import Derived.Test.YthbcljjpmdfflaaDh
namespace Go.Proofs.Ythbcljjpmdfflaa
open Go.RowKit
set_option linter.unusedSimpArgs false
set_option linter.unusedVariables false
set_option maxRecDepth 100000
set_option maxHeartbeats 1600000 in
theorem rmake_err (f : Font) (s : Style) (b : Box) (deg : List Box) (hf : f.Fit) (hb : b.okk ∧ b.cnt ≤ 1000000) (hd : ∀ g ∈ deg, g.okk ∧ g.cnt ≤ 1000000) (hl : deg.length ≤ 1000) (hx : chkR f s (b :: deg) = 1 ∨ (chkR f s (b :: deg) = 0 ∧ 1 < deg.length)) : AC Try.prog 37 [.agg f.vs, styleV s, boxV b, .c (.sl (Box.rows deg))] (boxEV (Box.zero, 1)) := by
 have hck := rchk_a f s (b :: deg) hf (by
  intro c hc
  rcases List.mem_cons.1 hc with rfl | hc
  · exact hb
  · exact hd c hc) (by simp only [List.length_cons]; omega)
 have hrl : (Box.rows deg).length = deg.length := by rw [rows_map]; simp
 have hall : (∀ x : List C, x ∈ Box.rows deg → x.length = 11) ↔ True := ⟨fun _ => trivial, fun _ => rows_len' deg⟩
 have f1 : 1 + deg.length ≤ maxLen := by unfold maxLen; omega
 have f2 : (1 + deg.length) * 128 ≤ 140737488355328 := by omega
 simp only [boxEV, boxV_vs, errV, Box.rows] at hck ⊢
 unfold styleV at hck ⊢
 rcases hx with hx | ⟨hx, hl1⟩
 · rw [hx] at hck
   refine en Try.func37 Try.ntmps37 ?_
   refine go (cj @f1 <| cj @f2 <| cj @hrl <| @hall) ?_
   refine gc0 (hck) Try.func79 ?_
   refine go0 ?_
   simp [aRet, ares, aresL, ares1, V.pub, V.pubs, ldV, Try.results37, zero_vs]
 · rw [hx] at hck
   have hl2 : (1 : Int) < (deg.length : Int) := by omega
   refine en Try.func37 Try.ntmps37 ?_
   refine go (cj @f1 <| cj @f2 <| cj @hrl <| @hall) ?_
   refine gc0 (hck) Try.func79 ?_
   refine go (cj @hrl <| cj @hl1 <| @hl2) ?_
   simp [aRet, ares, aresL, ares1, V.pub, V.pubs, ldV, Try.results37, zero_vs]
theorem rmake_a (f : Font) (s : Style) (b : Box) (deg : List Box) (hf : f.Fit) (hz : ∀ s ∈ f.stretches, s.sizes.length ≤ 1000) (hb : b.okk ∧ b.cnt ≤ 1000000) (hd : ∀ g ∈ deg, g.okk ∧ g.cnt ≤ 1000000) (hl : deg.length ≤ 1000) : AC Try.prog 37 [.agg f.vs, styleV s, boxV b, .c (.sl (Box.rows deg))] (boxEV (rdMake f s b deg)) := by
 by_cases hc : f.valid = false ∨ s.ok = false ∨ (b :: deg).all Box.validB = false
 · have e1 : chkR f s (b :: deg) = 1 := if_pos hc
   have e : rdMake f s b deg = (Box.zero, 1) := by
    refine if_pos ?_
    rcases hc with h | h | h
    · exact .inl h
    · exact .inr (.inl h)
    · simp only [List.all_cons, Bool.and_eq_false_iff] at h
      rcases h with h | h
      · exact .inr (.inr (.inl h))
      · exact .inr (.inr (.inr (.inl h)))
   rw [e]
   exact rmake_err f s b deg hf hb hd hl (.inl e1)
 · have e1 : chkR f s (b :: deg) = 0 := if_neg hc
   simp only [List.all_cons, not_or, Bool.and_eq_false_iff, Bool.not_eq_false] at hc
   obtain ⟨hv, ho, hbv, hdv⟩ := hc
   match deg, hd, hdv, e1 with
   | [], hd, hdv, e1 =>
     have e : rdMake f s b [] = doneR (rdBox f s b []) := if_neg (by simp [hv, ho, hbv])
     rw [e]; exact rmake_nil f s b hf hz hv ho hbv hb.1
   | [g], hd, hdv, e1 =>
     have hg : g.validB = true := by simpa using hdv
     have e : rdMake f s b [g] = doneR (rdBox f s b [g]) := if_neg (by simp [hv, ho, hbv, hg])
     rw [e]; exact rmake_one f s b g hf hz hv ho hbv hb.1 hg (hd g List.mem_cons_self).1
   | g :: g' :: l, hd, hdv, e1 =>
     have e : rdMake f s b (g :: g' :: l) = (Box.zero, 1) := if_pos (.inr (.inr (.inr (.inr (by simp)))))
     rw [e]
     exact rmake_err f s b _ hf hb hd hl (.inr ⟨e1, by simp⟩)
def caseVs (f : Font) (s : Style) (b : Box) (deg : List Box) : List V := f.vs ++ (.c (.int .i64 s.level) :: .c (.bool s.cramped) :: (b.vs ++ [.c (.sl (Box.rows deg))]))
section
variable (f : Font) (s : Style) (b : Box) (deg : List Box)
@[simp] theorem case_len : (caseVs f s b deg).length = 36 := by simp [caseVs]
@[simp] theorem case_flat : (caseVs f s b deg).all V.one = true := by simp [caseVs, V.one]
@[simp] theorem case_take : (caseVs f s b deg).take 36 = caseVs f s b deg := List.take_of_length_le (by simp)
@[simp] theorem case_f : (caseVs f s b deg).take 22 = f.vs := by cases b; rfl
@[simp] theorem case_s : ((caseVs f s b deg).drop 22).take 2 = [.c (.int .i64 s.level), .c (.bool s.cramped)] := by cases b; rfl
@[simp] theorem case_b : ((caseVs f s b deg).drop 24).take 11 = b.vs := by cases b; rfl
@[simp] theorem case_d : (caseVs f s b deg)[35]? = some (.c (.sl (Box.rows deg))) := by cases b; rfl
@[simp] theorem case_dg (h : 35 < (caseVs f s b deg).length) : (caseVs f s b deg)[35]'h = .c (.sl (Box.rows deg)) := by cases b; rfl
@[simp] theorem case_w : (caseVs f s b deg)[27]? = some (.c (.int .i64 b.w)) := by cases b; rfl
@[simp] theorem case_wg (h : 27 < (caseVs f s b deg).length) : (caseVs f s b deg)[27]'h = .c (.int .i64 b.w) := by cases b; rfl
@[simp] theorem case_x : (caseVs f s b deg)[30]? = some (.c (.int .i64 b.x)) := by cases b; rfl
@[simp] theorem case_xg (h : 30 < (caseVs f s b deg).length) : (caseVs f s b deg)[30]'h = .c (.int .i64 b.x) := by cases b; rfl
@[simp] theorem case_y : (caseVs f s b deg)[31]? = some (.c (.int .i64 b.y)) := by cases b; rfl
@[simp] theorem case_yg (h : 31 < (caseVs f s b deg).length) : (caseVs f s b deg)[31]'h = .c (.int .i64 b.y) := by cases b; rfl
@[simp] theorem case_r : (caseVs f s b deg)[5]? = some (.c (.int .i64 f.params.rule)) := by cases b; rfl
@[simp] theorem case_rg (h : 5 < (caseVs f s b deg).length) : (caseVs f s b deg)[5]'h = .c (.int .i64 f.params.rule) := by cases b; rfl
@[simp] theorem case_pubs : V.pubs (caseVs f s b deg) = some (caseVs f s b deg) := by
 have : caseVs f s b deg = (f.row ++ (C.int .i64 s.level :: C.bool s.cramped :: (b.row ++ [C.sl (Box.rows deg)]))).map V.c := by cases b; rfl
 rw [this]; exact pubs_c _
@[simp] theorem case_put (cs : List V) (h : cs.length = 36) : putL cs 0 (caseVs f s b deg) = caseVs f s b deg := putL_all (by simp [h])
@[simp] theorem case_bnds (n : Nat) : V.bnds n (caseVs f s b deg) = true := by cases b; simp [caseVs, Font.vs, Font.row, Params.list, Box.vs, Box.row, V.bnds, V.bnd]
end
def tameB (f : Font) (b : Box) (deg : List Box) : Bool := (decide (deg.length ≤ 3) && (fewB f && decide (b.cnt ≤ 200))) && deg.all fun g => decide (g.cnt ≤ 200)
set_option maxHeartbeats 3200000 in
theorem tame_a (f : Font) (s : Style) (b : Box) (deg : List Box) (hf : f.Fit) (hb : b.fit) (hd : ∀ g ∈ deg, g.fit) (hl : deg.length ≤ maxLen) : AC Try.prog 35 [.agg (caseVs f s b deg)] (.c (.bool (tameB f b deg))) := by
 have hfew := few_a f hf.gl
 have hbf := rbfew_a b hb
 rw [boxV_vs] at hbf
 unfold maxLen at hl
 obtain ⟨rs, hrs⟩ : ∃ rs, Box.rows deg = rs := ⟨_, rfl⟩
 have hrl : rs.length = deg.length := by rw [← hrs, rows_map]; simp
 by_cases h1 : (3 : Int) < (deg.length : Int)
 · have h1' : 3 < deg.length := by omega
   have e : tameB f b deg = false := by unfold tameB; rw [decide_eq_false (by omega)]; rfl
   rw [e]
   refine en Try.func35 Try.ntmps35 ?_
   refine go (cj @hrs <| cj @hrl <| cj @h1 <| @h1') ?_
   simp [aRet, ares, aresL, ares1, V.pub, V.pubs, ldV, Try.results35]
 · have h1' : ¬ 3 < deg.length := by omega
   cases h2 : fewB f with
   | false =>
     have e : tameB f b deg = false := by unfold tameB; rw [h2]; simp
     rw [e]
     rw [h2] at hfew
     refine en Try.func35 Try.ntmps35 ?_
     refine go (cj @hrs <| cj @hrl <| cj @h1 <| @h1') ?_
     refine gc0 (hfew) Try.func22 ?_
     refine go0 ?_
     simp [aRet, ares, aresL, ares1, V.pub, V.pubs, ldV, Try.results35]
   | true =>
     rw [h2] at hfew
     by_cases h3 : b.cnt ≤ 200
     · have e : tameB f b deg = deg.all fun g => decide (g.cnt ≤ 200) := by unfold tameB; rw [h2, decide_eq_true (by omega), decide_eq_true h3]; rfl
       rw [e]
       rw [decide_eq_true h3] at hbf
       refine en Try.func35 Try.ntmps35 ?_
       refine go (cj @hrs <| cj @hrl <| cj @h1 <| @h1') ?_
       refine gc0 (hfew) Try.func22 ?_
       refine gc0 (hbf) Try.func70 ?_
       refine go0 ?_
       refine lp (ι := { k : Nat // k ≤ deg.length ∧ (deg.all fun g => decide (g.cnt ≤ 200)) = (deg.drop k).all fun g => decide (g.cnt ≤ 200) }) (fun k => [(2, .c (.bool false)), (3, .c (.int .i64 (k.1 : Int)))]) (fun k => [.box 70 (caseVs f s b deg) false]) (fun k => deg.length - k.1) ⟨0, by simp⟩ ?_ ?_
       all_goals simp only [puts, List.foldl_cons, List.foldl_nil, List.set_cons_zero, List.set_cons_succ]
       · refine Le.weak (by simp [subT])
       · rintro ⟨k, hk, hI⟩
         simp only
         by_cases hlt : k < deg.length
         · obtain ⟨c, hcc⟩ : ∃ c, deg[k] = c := ⟨_, rfl⟩
           have hrk : rs[k]? = some c.row := by rw [← hrs, rows_map, List.getElem?_map, List.getElem?_eq_getElem hlt, hcc]; rfl
           have hltr : k < rs.length := by omega
           have hrk' : ∀ hx : k < rs.length, rs[k]'hx = c.row := by intro hx; rw [List.getElem?_eq_getElem hx] at hrk; exact Option.some.inj hrk
           have hcf := rbfew_a c (hd c (hcc ▸ List.getElem_mem hlt))
           rw [boxV_vs] at hcf
           rw [List.drop_eq_getElem_cons hlt, hcc, List.all_cons] at hI
           have hw : IntKind.i64.wrap ((k : Int) + 1) = ((k + 1 : Nat) : Int) := by rw [wrap_i64 (by omega) (by omega)]; simp
           by_cases hcv : c.cnt ≤ 200
           · rw [decide_eq_true hcv, Bool.true_and] at hI
             rw [decide_eq_true hcv] at hcf
             refine go (cj @hrs <| cj @hrl <| cj @hlt <| cj @hrk <| cj @hrk' <| @hltr) ?_
             refine gc0 (hcf) Try.func70 ?_
             refine go @hw ?_
             refine ⟨⟨k + 1, by omega, hI⟩, by simp only; omega, ?_⟩
             refine Le.weak (by simp [subT])
           · rw [decide_eq_false hcv, Bool.false_and] at hI
             rw [decide_eq_false hcv] at hcf
             refine go (cj @hrs <| cj @hrl <| cj @hlt <| cj @hrk <| cj @hrk' <| @hltr) ?_
             refine gc0 (hcf) Try.func70 ?_
             refine go0 ?_
             simp [aRet, ares, aresL, ares1, V.pub, V.pubs, ldV, Try.results35, hI]
         · rw [List.drop_of_length_le (by omega), List.all_nil] at hI
           refine go (cj @hrs <| cj @hrl <| @hlt) ?_
           simp [aRet, ares, aresL, ares1, V.pub, V.pubs, ldV, Try.results35, hI]
     · have e : tameB f b deg = false := by unfold tameB; rw [decide_eq_false h3]; simp
       rw [e]
       rw [decide_eq_false h3] at hbf
       refine en Try.func35 Try.ntmps35 ?_
       refine go (cj @hrs <| cj @hrl <| cj @h1 <| @h1') ?_
       refine gc0 (hfew) Try.func22 ?_
       refine gc0 (hbf) Try.func70 ?_
       refine go0 ?_
       simp [aRet, ares, aresL, ares1, V.pub, V.pubs, ldV, Try.results35]
end Go.Proofs.Ythbcljjpmdfflaa
