/-
  LayoutStyle (layer 38), as a contract.
-/
import Derived.Test.YteacdpklcopedaaGreatSd
import Derived.Test.YteacdpklcopedaaGreatKj
import Derived.Tactics
import Derived.Tactics2
import Derived.Laws.StructEq
namespace Go.Proofs.YteacdpklcopedaaGreat
open Go.RowKit
set_option linter.unusedSimpArgs false
set_option linter.unusedVariables false
set_option maxRecDepth 100000

theorem lstyle38_a (n : Nd) (src : List Int) (s : Style) (hok : n.okk) (hl : src.length ≤ maxLen) : AC Tryz.prog 3 [ndV n, .agg [.c (intsC src), .c (.int .i64 s.level), .c (.bool s.cramped)]] (.c (.bool true)) := by
  have haw := awake38_a
  have hfew := rfew9_a n 300 hok (by omega) (by omega)
  obtain ⟨L, hL⟩ : ∃ L, intsC src = L := ⟨_, rfl⟩
  by_cases hc : (n.cnt : Int) ≤ 300
  · rw [decide_eq_true hc] at hfew
    by_cases hs : 60 < src.length
    · have hs' : (60 : Int) < (src.length : Int) := by omega
      unfold ndV at *
      unfold intsC
      refine en Tryz.func3 Tryz.ntmps3 ?_
      have ff := (cj @hs <| cj @hs' <| Tryz.results3)
      repeat any_goals (first | refine stW ?_ | exact lfW ff | refine ruW ff ?_ | refine caW ff (haw) ?_ | refine caW ff (hfew) ?_ | refine cdW ff ?_ | ((first | refine bdW ff ?_ ?_ | refine bxW ff ?_ ?_ | refine bnW ff ?_ ?_ | refine brW ff ?_ ?_) <;> intro h <;> try (exfalso; first | omega | contradiction)))
    · have hs' : ¬ (60 : Int) < (src.length : Int) := by omega
      have h1 := pstyle38_a n src s hok (by omega) (by omega)
      have h2 := rstyle38_a n src s hok (by omega) (by omega)
      obtain ⟨⟨⟨lv, cr⟩, e⟩, hr⟩ : ∃ r, styleR n src s = r := ⟨_, rfl⟩
      rw [hr] at h1 h2
      unfold stEV styleV at h1 h2
      unfold intsC at *
      unfold ndV at *
      refine en Tryz.func3 Tryz.ntmps3 ?_
      have ff := (cj @hs <| cj @hs' <| Tryz.results3)
      repeat any_goals (first | refine stN (RegN.mk 7) ?_ | exact lfW ff | refine ruW ff ?_ | refine caW ff (haw) ?_ | refine caW ff (hfew) ?_ | refine caW ff (h1) ?_ | refine caW ff (h2) ?_ | refine cdW ff ?_ | ((first | refine bdW ff ?_ ?_ | refine bxW ff ?_ ?_ | refine bnW ff ?_ ?_ | refine brW ff ?_ ?_) <;> intro h <;> try (exfalso; first | omega | contradiction)))
      simp only at h1 h2
      refine AW.regionS ?_
      refine SW.take 6 ?_
      with_reducible refine aops_run (by simp [List.replicate_succ]; first | exact rfl | exact ⟨rfl, rfl⟩) ?_
      refine aops_done ?_
      simp only [List.drop_succ_cons, List.drop_zero]
      refine SW.op (.c (.bool true)) (by simp [gate]) rfl ?_ ?_
      · intro S0 w0 x a w hA
        obtain ⟨u, hu, hcu⟩ := hA.2.get 42 _ rfl
        obtain ⟨u', hu', hcu'⟩ := hA.2.get 43 _ rfl
        simp only [CV, CVs, RdC] at hcu hcu'
        refine RunOk.pure hA.1 (u := .bool true) ?_ (by simp only [CV, RdC])
        obtain ⟨vs, rfl, _, _, hvs, ⟨rfl, _⟩, _, _, rfl, rfl, rfl⟩ := hcu
        obtain ⟨vs', rfl, _, _, hvs', ⟨rfl, _⟩, _, _, rfl, rfl, rfl⟩ := hcu'
        have ev1 : vs = #[.int .i64 lv, .bool cr] := Array.toList_inj.1 hvs
        have ev2 : vs' = #[.int .i64 lv, .bool cr] := Array.toList_inj.1 hvs'
        subst ev1 ev2
        have e1 : a.eval (.tmp 42) = .agg #[.int .i64 lv, .bool cr] := by simp [Act.eval, Array.getD_eq_getD_getElem?, ← Array.getElem?_toList, hu]
        have e2 : a.eval (.tmp 43) = .agg #[.int .i64 lv, .bool cr] := by simp [Act.eval, Array.getD_eq_getD_getElem?, ← Array.getElem?_toList, hu']
        clear hA hu hu' hvs hvs'
        simp only [execOp, e1, e2]
        go_simp
      refine SW.take 2 ?_
      with_reducible refine aops_run (by simp [List.replicate_succ]; first | exact rfl | exact ⟨rfl, rfl⟩) ?_
      refine aops_done ?_
      simp only [List.drop_succ_cons, List.drop_zero]
      refine SW.nil ?_
      have ff := (Tryz.results3)
      repeat any_goals (first | refine stW ?_ | exact lfW ff | refine ruW ff ?_ | refine cdW ff ?_ | ((first | refine bdW ff ?_ ?_ | refine bxW ff ?_ ?_ | refine bnW ff ?_ ?_ | refine brW ff ?_ ?_) <;> intro h <;> try (exfalso; first | omega | contradiction)))
  · rw [decide_eq_false hc] at hfew
    rw [hL]
    unfold ndV at *
    refine en Tryz.func3 Tryz.ntmps3 ?_
    have ff := (Tryz.results3)
    repeat any_goals (first | refine stW ?_ | exact lfW ff | refine ruW ff ?_ | refine caW ff (haw) ?_ | refine caW ff (hfew) ?_ | refine cdW ff ?_ | ((first | refine bdW ff ?_ ?_ | refine bxW ff ?_ ?_ | refine bnW ff ?_ ?_ | refine brW ff ?_ ?_) <;> intro h <;> try (exfalso; first | omega | contradiction)))
end Go.Proofs.YteacdpklcopedaaGreat
