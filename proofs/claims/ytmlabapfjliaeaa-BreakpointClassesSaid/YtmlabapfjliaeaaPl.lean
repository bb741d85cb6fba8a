/-
  Classes of a row (layer 26) on the abstract machine: both in-place rules.
-/

import Derived.Test.YtmlabapfjliaeaaPk
namespace Go.Proofs.Ytmlabapfjliaeaa
open Go.RowKit
set_option linter.unusedSimpArgs false
set_option linter.unusedVariables false
set_option maxRecDepth 100000

theorem ropens_a (c : Int) : AC Try.prog 28 [.c (.int .i64 c)] (.c (.bool (opensI c))) := by
  unfold opensI
  refine en Try.func28 Try.ntmps28 ?_
  have ff := (Try.results28)
  repeat any_goals (first | refine stW ?_ | exact lfW ff | refine ruW ff ?_ | refine cdW ff ?_ | ((first | refine bdW ff ?_ ?_ | refine bxW ff ?_ ?_ | refine bnW ff ?_ ?_ | refine brW ff ?_ ?_) <;> intro h <;> try (exfalso; first | omega | contradiction)))
theorem rcloses_a (c : Int) : AC Try.prog 29 [.c (.int .i64 c)] (.c (.bool (closesI c))) := by
  unfold closesI
  refine en Try.func29 Try.ntmps29 ?_
  have ff := (Try.results29)
  repeat any_goals (first | refine stW ?_ | exact lfW ff | refine ruW ff ?_ | refine cdW ff ?_ | ((first | refine bdW ff ?_ ?_ | refine bxW ff ?_ ?_ | refine bnW ff ?_ ?_ | refine brW ff ?_ ?_) <;> intro h <;> try (exfalso; first | omega | contradiction)))
theorem pbefore_a (c : Int) : AC Try.prog 36 [.c (.int .i64 c)] (.c (.bool (opensI c))) := by
  unfold opensI
  refine en Try.func36 Try.ntmps36 ?_
  have ff := (Try.results36)
  repeat any_goals (first | refine stW ?_ | exact lfW ff | refine ruW ff ?_ | refine cdW ff ?_ | ((first | refine bdW ff ?_ ?_ | refine bxW ff ?_ ?_ | refine bnW ff ?_ ?_ | refine brW ff ?_ ?_) <;> intro h <;> try (exfalso; first | omega | contradiction)))
theorem lastI_succ {D : List Int} {j : Nat} (h : D.length = j + 1) : lastI D = D.getD j 0 := by unfold lastI; rw [h]; rfl
theorem stepC_2 {D : List Int} {c : Int} (h : c = 2) (hq : D.length = 0 ∨ opensI (lastI D) = true) : stepC D c = D ++ [0] := if_pos ⟨h, hq⟩
theorem stepC_c {D : List Int} {c : Int} (h : ¬ c = 2) (h1 : closesI c = true) (h2 : 0 < D.length) (h3 : lastI D = 2) : stepC D c = D.set (D.length - 1) 0 ++ [c] := by unfold stepC; rw [if_neg (fun e => h e.1), if_pos ⟨h1, h2, h3⟩]
theorem stepC_n {D : List Int} {c : Int} (h : ¬ (c = 2 ∧ (D.length = 0 ∨ opensI (lastI D) = true))) (h2 : ¬ (closesI c = true ∧ 0 < D.length ∧ lastI D = 2)) : stepC D c = D ++ [c] := by unfold stepC; rw [if_neg h, if_neg h2]
theorem closes_2 : closesI 2 = false := by decide
theorem app1 (D : List Int) (c : Int) (r : List Int) : (D ++ [c]) ++ r = D ++ c :: r := by simp
set_option maxHeartbeats 6400000 in
theorem rrow_a (own : List Int) (hl : own.length ≤ 1000000) : AC Try.prog 20 [.c (intsC own)] (.c (intsC (rowC own))) := by
  by_cases hne : own = []
  · subst hne
    have e : intsC (rowC []) = .sl [] := rfl
    have e2 : intsC [] = .sl [] := rfl
    rw [e, e2]
    refine en Try.func20 Try.ntmps20 ?_
    have ff := (Try.results20)
    repeat any_goals (first | refine stN (RegN.mk 1) ?_ | exact lfW ff | refine ruW ff ?_ | refine cdW ff ?_ | ((first | refine bdW ff ?_ ?_ | refine bxW ff ?_ ?_ | refine bnW ff ?_ ?_ | refine brW ff ?_ ?_) <;> intro h <;> try (exfalso; first | omega | contradiction)))
    refine AW.regionS ?_
    refine SW.op (.full []) rfl rfl (fun S0 w0 x a w ⟨g, _⟩ => ok_build_none g rfl (by simp; exact ⟨rfl, rfl, rfl⟩)) ?_
    simp only [St.step, St.put, updH, List.set_cons_succ, List.set_cons_zero]
    refine SW.take 3 ?_
    with_reducible refine aops_run (by simp [List.replicate_succ]; first | exact rfl | exact ⟨rfl, rfl⟩) ?_
    refine aops_done ?_
    simp only [List.drop_succ_cons, List.drop_zero]
    refine SW.nil ?_
    have ff := (Try.results20)
    repeat any_goals (first | refine stW ?_ | exact lfW ff | refine ruW ff ?_ | refine cdW ff ?_ | ((first | refine bdW ff ?_ ?_ | refine bxW ff ?_ ?_ | refine bnW ff ?_ ?_ | refine brW ff ?_ ?_) <;> intro h <;> try (exfalso; first | omega | contradiction)))
    refine LA.loop (LA.round ?_)
    have ff := (Try.results20)
    repeat any_goals (first | refine stW ?_ | exact lfW ff | refine ruW ff ?_ | refine cdW ff ?_ | ((first | refine bdW ff ?_ ?_ | refine bxW ff ?_ ?_ | refine bnW ff ?_ ?_ | refine brW ff ?_ ?_) <;> intro h <;> try (exfalso; first | omega | contradiction)))
  · have hrl : (own.map fun n => [C.int .i64 n]).length = own.length := by rw [List.length_map]
    obtain ⟨n, hn⟩ : ∃ n, own.length = n := ⟨_, rfl⟩
    have hn0 : 0 < n := by rw [← hn]; exact List.length_pos_iff.2 hne
    refine en Try.func20 Try.ntmps20 ?_
    have ff := (Try.results20)
    repeat any_goals (first | refine stN (RegN.mk 1) ?_ | exact lfW ff | refine ruW ff ?_ | refine cdW ff ?_ | ((first | refine bdW ff ?_ ?_ | refine bxW ff ?_ ?_ | refine bnW ff ?_ ?_ | refine brW ff ?_ ?_) <;> intro h <;> try (exfalso; first | omega | contradiction)))
    refine AW.regionS ?_
    refine SW.op (.full []) rfl rfl (fun S0 w0 x a w ⟨g, _⟩ => ok_build_none g rfl (by simp; exact ⟨rfl, rfl, rfl⟩)) ?_
    simp only [St.step, St.put, updH, List.set_cons_succ, List.set_cons_zero]
    refine SW.take 1 ?_
    with_reducible refine aops_run (by simp [List.replicate_succ]; first | exact rfl | exact ⟨rfl, rfl⟩) ?_
    refine aops_done ?_
    simp only [List.drop_succ_cons, List.drop_zero]
    refine SW.opX (fun v t => ∃ m : Nat, v = .own 0 0 own.length 1 ∧ t = some (0, .box 3 (pints (own ++ List.replicate m 0)) false)) rfl (fun S0 w0 x a w g ht hd => ?_) ?_
    · exact ok_appcopyX (t := 26) (ety := 3) (by_ := 8) g rfl (by simp) (by simp) (ev_ok ht (.tmp 6)) (ev_ok ht (.tmp 7)) hne hl (by decide) 0 hd
    rintro v t ⟨m, rfl, rfl⟩
    simp only [St.step, St.put, updH, List.length_nil, List.nil_append, Nat.lt_irrefl, if_false, List.set_cons_succ, List.set_cons_zero]
    refine SW.take 1 ?_
    with_reducible refine aops_run (by simp [List.replicate_succ]; first | exact rfl | exact ⟨rfl, rfl⟩) ?_
    refine aops_done ?_
    simp only [List.drop_succ_cons, List.drop_zero]
    refine SW.nil ?_
    rw [hn]
    have ff := (Try.results20)
    repeat any_goals (first | refine stW ?_ | exact lfW ff | refine ruW ff ?_ | refine cdW ff ?_ | ((first | refine bdW ff ?_ ?_ | refine bxW ff ?_ ?_ | refine bnW ff ?_ ?_ | refine brW ff ?_ ?_) <;> intro h <;> try (exfalso; first | omega | contradiction)))
    refine lp (ι := { k : Nat // k ≤ n }) (fun k => [(4, .c (.int .i64 (k.1 : Int)))]) (fun k => [.box 3 (pints (foldC (own.take k.1) ++ (own.drop k.1 ++ List.replicate m 0))) false]) (fun k => n - k.1) ⟨0, by simp⟩ ?_ ?_
    all_goals simp only [puts, List.foldl_cons, List.foldl_nil, List.set_cons_zero, List.set_cons_succ]
    · refine Le.weak (by simp [subT, foldC])
    · rintro ⟨k, hk⟩
      simp only
      by_cases hlt : k < n
      · obtain ⟨c, hcc⟩ : ∃ c, own[k]? = some c := ⟨_, List.getElem?_eq_getElem (by omega)⟩
        have hdr : own.drop k = c :: own.drop (k + 1) := by rw [List.drop_eq_getElem_cons (by omega), gx hcc]
        have hft := foldC_take hcc
        have hDl : (foldC (own.take k)).length = k := by rw [foldC_len, List.length_take]; omega
        have hrl2 : (own.drop (k + 1)).length = n - (k + 1) := by rw [List.length_drop, hn]
        rw [hdr, List.cons_append]
        obtain ⟨D, hD⟩ : ∃ D, foldC (own.take k) = D := ⟨_, rfl⟩
        rw [hD] at hft hDl ⊢
        obtain ⟨X, hX⟩ : ∃ X, pints (D ++ c :: (own.drop (k + 1) ++ List.replicate m 0)) = X := ⟨_, rfl⟩
        have hXl : X.length = n + m := by rw [← hX, pints_len]; simp; omega
        have g0 : X[k]? = some (.c (.int .i64 c)) := by rw [← hX]; exact pget hDl
        have g0' := gx g0
        have s0 : X.set k (.c (.int .i64 0)) = pints ((D ++ [0]) ++ (own.drop (k + 1) ++ List.replicate m 0)) := by rw [← hX, pset hDl 0, app1]
        have hkX : k + 1 ≤ n + m := by omega
        have hkX2 : k < n + m := by omega
        rw [hX]
        have hcl := rcloses_a c
        clear hrl
        by_cases hc2 : c = 2
        · cases k with
          | zero =>
            rw [stepC_2 hc2 (.inl hDl)] at hft
            rw [← hft] at s0
            have ff := (cj @hlt <| cj @hXl <| cj @g0 <| cj @g0' <| cj @s0 <| cj @hkX <| cj @hkX2 <| cj @hc2 <| Try.results20)
            repeat any_goals (first | refine stW ?_ | exact lfW ff | refine ruW ff ?_ | refine cdW ff ?_ | ((first | refine bdW ff ?_ ?_ | refine bxW ff ?_ ?_ | refine bnW ff ?_ ?_ | refine brW ff ?_ ?_) <;> intro h <;> try (exfalso; first | omega | contradiction)))
            exact ⟨⟨0 + 1, by omega⟩, by simp only; omega, wd 1⟩
          | succ j =>
            have g1 : X[j]? = some (.c (.int .i64 (lastI D))) := by rw [← hX, lastI_succ hDl]; exact pget1 hDl
            have g1' := gx g1
            have hop := ropens_a (lastI D)
            have hj : j < n := by omega
            have hji : (j : Int) + 1 < (n : Int) := by omega
            have hj1 : ¬ (j : Int) + 1 = 0 := by omega
            have hj2 : (0 : Int) ≤ (j : Int) + 1 := by omega
            have hjX : j < n + m := by omega
            cases ho : opensI (lastI D) with
            | true =>
              rw [stepC_2 hc2 (.inr ho)] at hft
              rw [← hft] at s0
              rw [ho] at hop
              have ff := (cj @hlt <| cj @hXl <| cj @g0 <| cj @g0' <| cj @s0 <| cj @hkX <| cj @hkX2 <| cj @hc2 <| cj @g1 <| cj @g1' <| cj @hj <| cj @hji <| cj @hj1 <| cj @hj2 <| cj @hjX <| Try.results20)
              repeat any_goals (first | refine stW ?_ | exact lfW ff | refine ruW ff ?_ | refine caW ff (hop) ?_ | refine cdW ff ?_ | ((first | refine bdW ff ?_ ?_ | refine bxW ff ?_ ?_ | refine bnW ff ?_ ?_ | refine brW ff ?_ ?_) <;> intro h <;> try (exfalso; first | omega | contradiction)))
              exact ⟨⟨j + 1 + 1, by omega⟩, by simp only; omega, wd 1⟩
            | false =>
              rw [stepC_n (fun e => by rcases e.2 with e | e; omega; rw [ho] at e; cases e) (fun e => by rw [hc2, closes_2] at e; cases e.1)] at hft
              rw [hc2, closes_2] at hcl
              rw [ho] at hop
              have hXT : X = pints (foldC (own.take (j + 1 + 1)) ++ (own.drop (j + 1 + 1) ++ List.replicate m 0)) := by rw [← hX, hft, app1]
              have ff := (cj @hlt <| cj @hXl <| cj @g0 <| cj @g0' <| cj @hkX <| cj @hkX2 <| cj @hc2 <| cj @g1 <| cj @g1' <| cj @hj <| cj @hji <| cj @hj1 <| cj @hj2 <| cj @hjX <| Try.results20)
              repeat any_goals (first | refine stW ?_ | exact lfW ff | refine ruW ff ?_ | refine caW ff (hop) ?_ | refine caW ff (hcl) ?_ | refine cdW ff ?_ | ((first | refine bdW ff ?_ ?_ | refine bxW ff ?_ ?_ | refine bnW ff ?_ ?_ | refine brW ff ?_ ?_) <;> intro h <;> try (exfalso; first | omega | contradiction)))
              rw [hXT]
              exact ⟨⟨j + 1 + 1, by omega⟩, by simp only; omega, wd 1⟩
        · cases hcc2 : closesI c with
          | false =>
            rw [stepC_n (fun e => hc2 e.1) (fun e => by rw [hcc2] at e; cases e.1)] at hft
            rw [hcc2] at hcl
            have hXT : X = pints (foldC (own.take (k + 1)) ++ (own.drop (k + 1) ++ List.replicate m 0)) := by rw [← hX, hft, app1]
            have ff := (cj @hlt <| cj @hXl <| cj @g0 <| cj @g0' <| cj @hkX <| cj @hkX2 <| cj @hc2 <| Try.results20)
            repeat any_goals (first | refine stW ?_ | exact lfW ff | refine ruW ff ?_ | refine caW ff (hcl) ?_ | refine cdW ff ?_ | ((first | refine bdW ff ?_ ?_ | refine bxW ff ?_ ?_ | refine bnW ff ?_ ?_ | refine brW ff ?_ ?_) <;> intro h <;> try (exfalso; first | omega | contradiction)))
            rw [hXT]
            exact ⟨⟨k + 1, by omega⟩, by simp only; omega, wd 1⟩
          | true =>
            rw [hcc2] at hcl
            cases k with
            | zero =>
              rw [stepC_n (fun e => hc2 e.1) (fun e => by have := e.2.1; omega)] at hft
              have hXT : X = pints (foldC (own.take (0 + 1)) ++ (own.drop (0 + 1) ++ List.replicate m 0)) := by rw [← hX, hft, app1]
              have ff := (cj @hlt <| cj @hXl <| cj @g0 <| cj @g0' <| cj @hkX <| cj @hkX2 <| cj @hc2 <| Try.results20)
              repeat any_goals (first | refine stW ?_ | exact lfW ff | refine ruW ff ?_ | refine caW ff (hcl) ?_ | refine cdW ff ?_ | ((first | refine bdW ff ?_ ?_ | refine bxW ff ?_ ?_ | refine bnW ff ?_ ?_ | refine brW ff ?_ ?_) <;> intro h <;> try (exfalso; first | omega | contradiction)))
              rw [hXT]
              exact ⟨⟨0 + 1, by omega⟩, by simp only; omega, wd 1⟩
            | succ j =>
              have g1 : X[j]? = some (.c (.int .i64 (lastI D))) := by rw [← hX, lastI_succ hDl]; exact pget1 hDl
              have g1' := gx g1
              have hj : j < n := by omega
              have hji : (j : Int) + 1 < (n : Int) := by omega
              have hj1 : (0 : Int) < (j : Int) + 1 := by omega
              have hj2 : (0 : Int) ≤ (j : Int) + 1 := by omega
              have hjX : j < n + m := by omega
              have hjX1 : j + 1 ≤ n + m := by omega
              by_cases hla : lastI D = 2
              · rw [stepC_c hc2 hcc2 (by omega) hla, hDl, show j + 1 - 1 = j by omega] at hft
                have s1 : X.set j (.c (.int .i64 0)) = pints (foldC (own.take (j + 1 + 1)) ++ (own.drop (j + 1 + 1) ++ List.replicate m 0)) := by rw [← hX, pset1 hDl 0, hft, app1]
                have ff := (cj @hlt <| cj @hXl <| cj @g0 <| cj @g0' <| cj @hkX <| cj @hkX2 <| cj @hc2 <| cj @g1 <| cj @g1' <| cj @hj <| cj @hji <| cj @hj1 <| cj @hj2 <| cj @hjX <| cj @hjX1 <| cj @hla <| cj @s1 <| Try.results20)
                repeat any_goals (first | refine stW ?_ | exact lfW ff | refine ruW ff ?_ | refine caW ff (hcl) ?_ | refine cdW ff ?_ | ((first | refine bdW ff ?_ ?_ | refine bxW ff ?_ ?_ | refine bnW ff ?_ ?_ | refine brW ff ?_ ?_) <;> intro h <;> try (exfalso; first | omega | contradiction)))
                exact ⟨⟨j + 1 + 1, by omega⟩, by simp only; omega, wd 1⟩
              · rw [stepC_n (fun e => hc2 e.1) (fun e => hla e.2.2)] at hft
                have hXT : X = pints (foldC (own.take (j + 1 + 1)) ++ (own.drop (j + 1 + 1) ++ List.replicate m 0)) := by rw [← hX, hft, app1]
                have ff := (cj @hlt <| cj @hXl <| cj @g0 <| cj @g0' <| cj @hkX <| cj @hkX2 <| cj @hc2 <| cj @g1 <| cj @g1' <| cj @hj <| cj @hji <| cj @hj1 <| cj @hj2 <| cj @hjX <| cj @hla <| Try.results20)
                repeat any_goals (first | refine stW ?_ | exact lfW ff | refine ruW ff ?_ | refine caW ff (hcl) ?_ | refine cdW ff ?_ | ((first | refine bdW ff ?_ ?_ | refine bxW ff ?_ ?_ | refine bnW ff ?_ ?_ | refine brW ff ?_ ?_) <;> intro h <;> try (exfalso; first | omega | contradiction)))
                rw [hXT]
                exact ⟨⟨j + 1 + 1, by omega⟩, by simp only; omega, wd 1⟩
      · have e1 : own.take k = own := List.take_of_length_le (by omega)
        have e2 : own.drop k = [] := List.drop_of_length_le (by omega)
        have ek : k = n := by omega
        rw [e1, e2, List.nil_append]
        have hDl : (foldC own).length = n := by rw [foldC_len, hn]
        unfold rowC
        obtain ⟨D, hD⟩ : ∃ D, foldC own = D := ⟨_, rfl⟩
        rw [hD] at hDl ⊢
        obtain ⟨p, hp⟩ : ∃ p, n = p + 1 := ⟨n - 1, by omega⟩
        subst ek
        subst hp
        obtain ⟨X, hX⟩ : ∃ X, pints (D ++ List.replicate m 0) = X := ⟨_, rfl⟩
        have hXl : X.length = p + 1 + m := by rw [← hX, pints_len]; simp; omega
        have g1 : X[p]? = some (.c (.int .i64 (lastI D))) := by rw [← hX, lastI_succ hDl]; exact pget1 hDl
        have g1' := gx g1
        have hpX : p < p + 1 + m := by omega
        have hpX1 : p + 1 ≤ p + 1 + m := by omega
        have hpl : (p : Int) < (p : Int) + 1 := by omega
        by_cases hla : lastI D = 2
        · have hF : finC D = D.set p 0 := by unfold finC; rw [if_pos ⟨by omega, hla⟩, hDl]; rfl
          have s1 : X.set p (.c (.int .i64 0)) = pints (D.set p 0 ++ List.replicate m 0) := by rw [← hX]; exact pset1 hDl 0
          have hch := pchop (D.set p 0) (List.replicate m 0)
          rw [List.length_set, hDl] at hch
          rw [hF, hX]
          have ff := (cj @hlt <| cj @hXl <| cj @g1 <| cj @g1' <| cj @hpX <| cj @hpX1 <| cj @hpl <| cj @hla <| cj @s1 <| Try.results20)
          repeat any_goals (first | refine stN (RegN.mk 12) ?_ | exact lfW ff | refine ruW ff ?_ | refine cdW ff ?_ | ((first | refine bdW ff ?_ ?_ | refine bxW ff ?_ ?_ | refine bnW ff ?_ ?_ | refine brW ff ?_ ?_) <;> intro h <;> try (exfalso; first | omega | contradiction)))
          refine AW.frz 0 rfl (pints_toCs _) (by simp only [V.frzs, V.frz, List.drop_zero, hch, if_true]; exact rfl) (by simp only [List.set_cons_zero, List.map_cons, List.map_nil, O.frz, pints_frzs]; exact rfl) ?_
          unfold intsC
          have ff := (Try.results20)
          repeat any_goals (first | refine stW ?_ | exact lfW ff | refine ruW ff ?_ | refine cdW ff ?_ | ((first | refine bdW ff ?_ ?_ | refine bxW ff ?_ ?_ | refine bnW ff ?_ ?_ | refine brW ff ?_ ?_) <;> intro h <;> try (exfalso; first | omega | contradiction)))
        · have hF : finC D = D := by unfold finC; rw [if_neg (fun e => hla e.2)]
          have hch := pchop D (List.replicate m 0)
          rw [hDl] at hch
          rw [hF, hX]
          have ff := (cj @hlt <| cj @hXl <| cj @g1 <| cj @g1' <| cj @hpX <| cj @hpX1 <| cj @hpl <| cj @hla <| Try.results20)
          repeat any_goals (first | refine stN (RegN.mk 12) ?_ | exact lfW ff | refine ruW ff ?_ | refine cdW ff ?_ | ((first | refine bdW ff ?_ ?_ | refine bxW ff ?_ ?_ | refine bnW ff ?_ ?_ | refine brW ff ?_ ?_) <;> intro h <;> try (exfalso; first | omega | contradiction)))
          rw [← hX]
          refine AW.frz 0 rfl (pints_toCs _) (by simp only [V.frzs, V.frz, List.drop_zero, hch, if_true]; exact rfl) (by simp only [List.set_cons_zero, List.map_cons, List.map_nil, O.frz, pints_frzs]; exact rfl) ?_
          unfold intsC
          have ff := (Try.results20)
          repeat any_goals (first | refine stW ?_ | exact lfW ff | refine ruW ff ?_ | refine cdW ff ?_ | ((first | refine bdW ff ?_ ?_ | refine bxW ff ?_ ?_ | refine bnW ff ?_ ?_ | refine brW ff ?_ ?_) <;> intro h <;> try (exfalso; first | omega | contradiction)))
end Go.Proofs.Ytmlabapfjliaeaa
