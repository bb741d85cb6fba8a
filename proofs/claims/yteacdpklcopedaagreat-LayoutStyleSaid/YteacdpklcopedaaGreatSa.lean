/-
  Styles of slots: the reference's Slot, on the abstract machine.
-/
import Derived.Test.YteacdpklcopedaaGreatQt
namespace Go.Proofs.YteacdpklcopedaaGreat
open Go.RowKit
set_option linter.unusedSimpArgs false
set_option linter.unusedVariables false
set_option maxRecDepth 100000

set_option maxHeartbeats 1600000 in
theorem rslot_k5 (i l N : Int) (c : Bool) (h0 : ¬ N = 0) (hi1 : ¬ i < 0) (hi2 : ¬ N ≤ i) (hw : IntKind.i64.wrap (l + 1) = l + 1) (hs : AC Tryz.prog 17 [.agg [.c (.int .i64 l), .c (.bool c)]] (.c (.bool true))) (hn : AC Tryz.prog 30 [.c (.int .i64 5)] (.c (.int .i64 N))) (hsc : AC Tryz.prog 31 [.c (.int .i64 l)] (.c (.int .i64 (if l ≤ 1 then 2 else 3)))) :
    AC Tryz.prog 19 [.c (.int .i64 5), .c (.int .i64 i), .agg [.c (.int .i64 l), .c (.bool c)]] (.tup [.agg [.c (.int .i64 (slotS 5 i ⟨l, c⟩).level), .c (.bool (slotS 5 i ⟨l, c⟩).cramped)], .c (.int .i64 0)]) := by
  have e : (slotS 5 i ⟨l, c⟩) = ⟨if l + 1 ≤ 3 then l + 1 else 3, c || decide (i = 1)⟩ := rfl
  rw [e]
  by_cases h3 : l + 1 ≤ 3
  · rw [if_pos h3]
    have h3' : ¬ 3 < l + 1 := by omega
    have h3'' : ¬ 3 ≤ l := by omega
    refine en Tryz.func19 Tryz.ntmps19 ?_
    cases c with
    | true =>
      have ff := (cj @h0 <| cj @hi1 <| cj @hi2 <| cj @hw <| cj @h3' <| cj @h3'' <| Tryz.results19)
      repeat any_goals (first | refine stW ?_ | exact lfW ff | refine ruW ff ?_ | refine caW ff (hs) ?_ | refine caW ff (hn) ?_ | refine cdW ff ?_ | ((first | refine bdW ff ?_ ?_ | refine bxW ff ?_ ?_ | refine bnW ff ?_ ?_ | refine brW ff ?_ ?_) <;> intro h <;> try (exfalso; first | omega | contradiction)))
    | false =>
      have ff := (cj @h0 <| cj @hi1 <| cj @hi2 <| cj @hw <| cj @h3' <| cj @h3'' <| Tryz.results19)
      repeat any_goals (first | refine stW ?_ | exact lfW ff | refine ruW ff ?_ | refine caW ff (hs) ?_ | refine caW ff (hn) ?_ | refine cdW ff ?_ | ((first | refine bdW ff ?_ ?_ | refine bxW ff ?_ ?_ | refine bnW ff ?_ ?_ | refine brW ff ?_ ?_) <;> intro h <;> try (exfalso; first | omega | contradiction)))
  · rw [if_neg h3]
    have h3' : 3 < l + 1 := by omega
    have h3'' : 3 ≤ l := by omega
    refine en Tryz.func19 Tryz.ntmps19 ?_
    cases c with
    | true =>
      have ff := (cj @h0 <| cj @hi1 <| cj @hi2 <| cj @hw <| cj @h3' <| cj @h3'' <| Tryz.results19)
      repeat any_goals (first | refine stW ?_ | exact lfW ff | refine ruW ff ?_ | refine caW ff (hs) ?_ | refine caW ff (hn) ?_ | refine cdW ff ?_ | ((first | refine bdW ff ?_ ?_ | refine bxW ff ?_ ?_ | refine bnW ff ?_ ?_ | refine brW ff ?_ ?_) <;> intro h <;> try (exfalso; first | omega | contradiction)))
    | false =>
      have ff := (cj @h0 <| cj @hi1 <| cj @hi2 <| cj @hw <| cj @h3' <| cj @h3'' <| Tryz.results19)
      repeat any_goals (first | refine stW ?_ | exact lfW ff | refine ruW ff ?_ | refine caW ff (hs) ?_ | refine caW ff (hn) ?_ | refine cdW ff ?_ | ((first | refine bdW ff ?_ ?_ | refine bxW ff ?_ ?_ | refine bnW ff ?_ ?_ | refine brW ff ?_ ?_) <;> intro h <;> try (exfalso; first | omega | contradiction)))
set_option maxHeartbeats 1600000 in
theorem rslot_k6 (i l N : Int) (c : Bool) (h0 : ¬ N = 0) (hi1 : ¬ i < 0) (hi2 : ¬ N ≤ i) (hw : IntKind.i64.wrap (l + 1) = l + 1) (hs : AC Tryz.prog 17 [.agg [.c (.int .i64 l), .c (.bool c)]] (.c (.bool true))) (hn : AC Tryz.prog 30 [.c (.int .i64 6)] (.c (.int .i64 N))) (hsc : AC Tryz.prog 31 [.c (.int .i64 l)] (.c (.int .i64 (if l ≤ 1 then 2 else 3)))) :
    AC Tryz.prog 19 [.c (.int .i64 6), .c (.int .i64 i), .agg [.c (.int .i64 l), .c (.bool c)]] (.tup [.agg [.c (.int .i64 (slotS 6 i ⟨l, c⟩).level), .c (.bool (slotS 6 i ⟨l, c⟩).cramped)], .c (.int .i64 0)]) := by
  by_cases hi : i = 0
  · subst hi
    have e : (slotS 6 0 ⟨l, c⟩) = ⟨3, c⟩ := rfl
    rw [e]
    refine en Tryz.func19 Tryz.ntmps19 ?_
    have ff := (cj @h0 <| cj @hi1 <| cj @hi2 <| Tryz.results19)
    repeat any_goals (first | refine stW ?_ | exact lfW ff | refine ruW ff ?_ | refine caW ff (hs) ?_ | refine caW ff (hn) ?_ | refine cdW ff ?_ | ((first | refine bdW ff ?_ ?_ | refine bxW ff ?_ ?_ | refine bnW ff ?_ ?_ | refine brW ff ?_ ?_) <;> intro h <;> try (exfalso; first | omega | contradiction)))
  · have e : (slotS 6 i ⟨l, c⟩) = ⟨l, true⟩ := by simp [slotS, hi]
    rw [e]
    refine en Tryz.func19 Tryz.ntmps19 ?_
    have ff := (cj @h0 <| cj @hi1 <| cj @hi2 <| cj @hi <| Tryz.results19)
    repeat any_goals (first | refine stW ?_ | exact lfW ff | refine ruW ff ?_ | refine caW ff (hs) ?_ | refine caW ff (hn) ?_ | refine cdW ff ?_ | ((first | refine bdW ff ?_ ?_ | refine bxW ff ?_ ?_ | refine bnW ff ?_ ?_ | refine brW ff ?_ ?_) <;> intro h <;> try (exfalso; first | omega | contradiction)))
set_option maxHeartbeats 1600000 in
theorem rslot_k7 (i l N : Int) (c : Bool) (h0 : ¬ N = 0) (hi1 : ¬ i < 0) (hi2 : ¬ N ≤ i) (hw : IntKind.i64.wrap (l + 1) = l + 1) (hs : AC Tryz.prog 17 [.agg [.c (.int .i64 l), .c (.bool c)]] (.c (.bool true))) (hn : AC Tryz.prog 30 [.c (.int .i64 7)] (.c (.int .i64 N))) (hsc : AC Tryz.prog 31 [.c (.int .i64 l)] (.c (.int .i64 (if l ≤ 1 then 2 else 3)))) :
    AC Tryz.prog 19 [.c (.int .i64 7), .c (.int .i64 i), .agg [.c (.int .i64 l), .c (.bool c)]] (.tup [.agg [.c (.int .i64 (slotS 7 i ⟨l, c⟩).level), .c (.bool (slotS 7 i ⟨l, c⟩).cramped)], .c (.int .i64 0)]) := by
  by_cases hi : i = 0
  · subst hi
    have e : (slotS 7 0 ⟨l, c⟩) = ⟨l, c⟩ := by simp [slotS]
    rw [e]
    refine en Tryz.func19 Tryz.ntmps19 ?_
    have ff := (cj @h0 <| cj @hi1 <| cj @hi2 <| Tryz.results19)
    repeat any_goals (first | refine stW ?_ | exact lfW ff | refine ruW ff ?_ | refine caW ff (hs) ?_ | refine caW ff (hn) ?_ | refine cdW ff ?_ | ((first | refine bdW ff ?_ ?_ | refine bxW ff ?_ ?_ | refine bnW ff ?_ ?_ | refine brW ff ?_ ?_) <;> intro h <;> try (exfalso; first | omega | contradiction)))
  · by_cases h1 : i = 1
    · subst h1
      have e : (slotS 7 1 ⟨l, c⟩) = ⟨if l ≤ 1 then 2 else 3, c || true⟩ := by simp [slotS, scriptL]
      rw [e]
      obtain ⟨L, hL⟩ : ∃ L : Int, (if l ≤ 1 then 2 else 3) = L := ⟨_, rfl⟩
      rw [hL] at hsc ⊢
      refine en Tryz.func19 Tryz.ntmps19 ?_
      cases c with
      | true =>
        have ff := (cj @h0 <| cj @hi1 <| cj @hi2 <| Tryz.results19)
        repeat any_goals (first | refine stW ?_ | exact lfW ff | refine ruW ff ?_ | refine caW ff (hs) ?_ | refine caW ff (hn) ?_ | refine caW ff (hsc) ?_ | refine cdW ff ?_ | ((first | refine bdW ff ?_ ?_ | refine bxW ff ?_ ?_ | refine bnW ff ?_ ?_ | refine brW ff ?_ ?_) <;> intro h <;> try (exfalso; first | omega | contradiction)))
      | false =>
        have ff := (cj @h0 <| cj @hi1 <| cj @hi2 <| Tryz.results19)
        repeat any_goals (first | refine stW ?_ | exact lfW ff | refine ruW ff ?_ | refine caW ff (hs) ?_ | refine caW ff (hn) ?_ | refine caW ff (hsc) ?_ | refine cdW ff ?_ | ((first | refine bdW ff ?_ ?_ | refine bxW ff ?_ ?_ | refine bnW ff ?_ ?_ | refine brW ff ?_ ?_) <;> intro h <;> try (exfalso; first | omega | contradiction)))
    · have e : (slotS 7 i ⟨l, c⟩) = ⟨if l ≤ 1 then 2 else 3, c || false⟩ := by simp [slotS, scriptL, hi, h1]
      rw [e]
      obtain ⟨L, hL⟩ : ∃ L : Int, (if l ≤ 1 then 2 else 3) = L := ⟨_, rfl⟩
      rw [hL] at hsc ⊢
      refine en Tryz.func19 Tryz.ntmps19 ?_
      cases c with
      | true =>
        have ff := (cj @h0 <| cj @hi1 <| cj @hi2 <| cj @hi <| cj @h1 <| Tryz.results19)
        repeat any_goals (first | refine stW ?_ | exact lfW ff | refine ruW ff ?_ | refine caW ff (hs) ?_ | refine caW ff (hn) ?_ | refine caW ff (hsc) ?_ | refine cdW ff ?_ | ((first | refine bdW ff ?_ ?_ | refine bxW ff ?_ ?_ | refine bnW ff ?_ ?_ | refine brW ff ?_ ?_) <;> intro h <;> try (exfalso; first | omega | contradiction)))
      | false =>
        have ff := (cj @h0 <| cj @hi1 <| cj @hi2 <| cj @hi <| cj @h1 <| Tryz.results19)
        repeat any_goals (first | refine stW ?_ | exact lfW ff | refine ruW ff ?_ | refine caW ff (hs) ?_ | refine caW ff (hn) ?_ | refine caW ff (hsc) ?_ | refine cdW ff ?_ | ((first | refine bdW ff ?_ ?_ | refine bxW ff ?_ ?_ | refine bnW ff ?_ ?_ | refine brW ff ?_ ?_) <;> intro h <;> try (exfalso; first | omega | contradiction)))
set_option maxHeartbeats 1600000 in
theorem rslot_k8 (i l N : Int) (c : Bool) (h0 : ¬ N = 0) (hi1 : ¬ i < 0) (hi2 : ¬ N ≤ i) (hw : IntKind.i64.wrap (l + 1) = l + 1) (hs : AC Tryz.prog 17 [.agg [.c (.int .i64 l), .c (.bool c)]] (.c (.bool true))) (hn : AC Tryz.prog 30 [.c (.int .i64 8)] (.c (.int .i64 N))) (hsc : AC Tryz.prog 31 [.c (.int .i64 l)] (.c (.int .i64 (if l ≤ 1 then 2 else 3)))) :
    AC Tryz.prog 19 [.c (.int .i64 8), .c (.int .i64 i), .agg [.c (.int .i64 l), .c (.bool c)]] (.tup [.agg [.c (.int .i64 (slotS 8 i ⟨l, c⟩).level), .c (.bool (slotS 8 i ⟨l, c⟩).cramped)], .c (.int .i64 0)]) := by
  by_cases hi : i = 0
  · subst hi
    have e : (slotS 8 0 ⟨l, c⟩) = ⟨l, c⟩ := by simp [slotS]
    rw [e]
    refine en Tryz.func19 Tryz.ntmps19 ?_
    have ff := (cj @h0 <| cj @hi1 <| cj @hi2 <| Tryz.results19)
    repeat any_goals (first | refine stW ?_ | exact lfW ff | refine ruW ff ?_ | refine caW ff (hs) ?_ | refine caW ff (hn) ?_ | refine cdW ff ?_ | ((first | refine bdW ff ?_ ?_ | refine bxW ff ?_ ?_ | refine bnW ff ?_ ?_ | refine brW ff ?_ ?_) <;> intro h <;> try (exfalso; first | omega | contradiction)))
  · by_cases h1 : i = 1
    · subst h1
      have e : (slotS 8 1 ⟨l, c⟩) = ⟨if l ≤ 1 then 2 else 3, c || false⟩ := by simp [slotS, scriptL]
      rw [e]
      obtain ⟨L, hL⟩ : ∃ L : Int, (if l ≤ 1 then 2 else 3) = L := ⟨_, rfl⟩
      rw [hL] at hsc ⊢
      refine en Tryz.func19 Tryz.ntmps19 ?_
      cases c with
      | true =>
        have ff := (cj @h0 <| cj @hi1 <| cj @hi2 <| Tryz.results19)
        repeat any_goals (first | refine stW ?_ | exact lfW ff | refine ruW ff ?_ | refine caW ff (hs) ?_ | refine caW ff (hn) ?_ | refine caW ff (hsc) ?_ | refine cdW ff ?_ | ((first | refine bdW ff ?_ ?_ | refine bxW ff ?_ ?_ | refine bnW ff ?_ ?_ | refine brW ff ?_ ?_) <;> intro h <;> try (exfalso; first | omega | contradiction)))
      | false =>
        have ff := (cj @h0 <| cj @hi1 <| cj @hi2 <| Tryz.results19)
        repeat any_goals (first | refine stW ?_ | exact lfW ff | refine ruW ff ?_ | refine caW ff (hs) ?_ | refine caW ff (hn) ?_ | refine caW ff (hsc) ?_ | refine cdW ff ?_ | ((first | refine bdW ff ?_ ?_ | refine bxW ff ?_ ?_ | refine bnW ff ?_ ?_ | refine brW ff ?_ ?_) <;> intro h <;> try (exfalso; first | omega | contradiction)))
    · have e : (slotS 8 i ⟨l, c⟩) = ⟨if l ≤ 1 then 2 else 3, c || false⟩ := by simp [slotS, scriptL, hi, h1]
      rw [e]
      obtain ⟨L, hL⟩ : ∃ L : Int, (if l ≤ 1 then 2 else 3) = L := ⟨_, rfl⟩
      rw [hL] at hsc ⊢
      refine en Tryz.func19 Tryz.ntmps19 ?_
      cases c with
      | true =>
        have ff := (cj @h0 <| cj @hi1 <| cj @hi2 <| cj @hi <| cj @h1 <| Tryz.results19)
        repeat any_goals (first | refine stW ?_ | exact lfW ff | refine ruW ff ?_ | refine caW ff (hs) ?_ | refine caW ff (hn) ?_ | refine caW ff (hsc) ?_ | refine cdW ff ?_ | ((first | refine bdW ff ?_ ?_ | refine bxW ff ?_ ?_ | refine bnW ff ?_ ?_ | refine brW ff ?_ ?_) <;> intro h <;> try (exfalso; first | omega | contradiction)))
      | false =>
        have ff := (cj @h0 <| cj @hi1 <| cj @hi2 <| cj @hi <| cj @h1 <| Tryz.results19)
        repeat any_goals (first | refine stW ?_ | exact lfW ff | refine ruW ff ?_ | refine caW ff (hs) ?_ | refine caW ff (hn) ?_ | refine caW ff (hsc) ?_ | refine cdW ff ?_ | ((first | refine bdW ff ?_ ?_ | refine bxW ff ?_ ?_ | refine bnW ff ?_ ?_ | refine brW ff ?_ ?_) <;> intro h <;> try (exfalso; first | omega | contradiction)))
set_option maxHeartbeats 1600000 in
theorem rslot_k9 (i l N : Int) (c : Bool) (h0 : ¬ N = 0) (hi1 : ¬ i < 0) (hi2 : ¬ N ≤ i) (hw : IntKind.i64.wrap (l + 1) = l + 1) (hs : AC Tryz.prog 17 [.agg [.c (.int .i64 l), .c (.bool c)]] (.c (.bool true))) (hn : AC Tryz.prog 30 [.c (.int .i64 9)] (.c (.int .i64 N))) (hsc : AC Tryz.prog 31 [.c (.int .i64 l)] (.c (.int .i64 (if l ≤ 1 then 2 else 3)))) :
    AC Tryz.prog 19 [.c (.int .i64 9), .c (.int .i64 i), .agg [.c (.int .i64 l), .c (.bool c)]] (.tup [.agg [.c (.int .i64 (slotS 9 i ⟨l, c⟩).level), .c (.bool (slotS 9 i ⟨l, c⟩).cramped)], .c (.int .i64 0)]) := by
  by_cases hi : i = 0
  · subst hi
    have e : (slotS 9 0 ⟨l, c⟩) = ⟨l, c⟩ := by simp [slotS]
    rw [e]
    refine en Tryz.func19 Tryz.ntmps19 ?_
    have ff := (cj @h0 <| cj @hi1 <| cj @hi2 <| Tryz.results19)
    repeat any_goals (first | refine stW ?_ | exact lfW ff | refine ruW ff ?_ | refine caW ff (hs) ?_ | refine caW ff (hn) ?_ | refine cdW ff ?_ | ((first | refine bdW ff ?_ ?_ | refine bxW ff ?_ ?_ | refine bnW ff ?_ ?_ | refine brW ff ?_ ?_) <;> intro h <;> try (exfalso; first | omega | contradiction)))
  · by_cases h1 : i = 1
    · subst h1
      have e : (slotS 9 1 ⟨l, c⟩) = ⟨if l ≤ 1 then 2 else 3, c || true⟩ := by simp [slotS, scriptL]
      rw [e]
      obtain ⟨L, hL⟩ : ∃ L : Int, (if l ≤ 1 then 2 else 3) = L := ⟨_, rfl⟩
      rw [hL] at hsc ⊢
      refine en Tryz.func19 Tryz.ntmps19 ?_
      cases c with
      | true =>
        have ff := (cj @h0 <| cj @hi1 <| cj @hi2 <| Tryz.results19)
        repeat any_goals (first | refine stW ?_ | exact lfW ff | refine ruW ff ?_ | refine caW ff (hs) ?_ | refine caW ff (hn) ?_ | refine caW ff (hsc) ?_ | refine cdW ff ?_ | ((first | refine bdW ff ?_ ?_ | refine bxW ff ?_ ?_ | refine bnW ff ?_ ?_ | refine brW ff ?_ ?_) <;> intro h <;> try (exfalso; first | omega | contradiction)))
      | false =>
        have ff := (cj @h0 <| cj @hi1 <| cj @hi2 <| Tryz.results19)
        repeat any_goals (first | refine stW ?_ | exact lfW ff | refine ruW ff ?_ | refine caW ff (hs) ?_ | refine caW ff (hn) ?_ | refine caW ff (hsc) ?_ | refine cdW ff ?_ | ((first | refine bdW ff ?_ ?_ | refine bxW ff ?_ ?_ | refine bnW ff ?_ ?_ | refine brW ff ?_ ?_) <;> intro h <;> try (exfalso; first | omega | contradiction)))
    · have e : (slotS 9 i ⟨l, c⟩) = ⟨if l ≤ 1 then 2 else 3, c || false⟩ := by simp [slotS, scriptL, hi, h1]
      rw [e]
      obtain ⟨L, hL⟩ : ∃ L : Int, (if l ≤ 1 then 2 else 3) = L := ⟨_, rfl⟩
      rw [hL] at hsc ⊢
      refine en Tryz.func19 Tryz.ntmps19 ?_
      cases c with
      | true =>
        have ff := (cj @h0 <| cj @hi1 <| cj @hi2 <| cj @hi <| cj @h1 <| Tryz.results19)
        repeat any_goals (first | refine stW ?_ | exact lfW ff | refine ruW ff ?_ | refine caW ff (hs) ?_ | refine caW ff (hn) ?_ | refine caW ff (hsc) ?_ | refine cdW ff ?_ | ((first | refine bdW ff ?_ ?_ | refine bxW ff ?_ ?_ | refine bnW ff ?_ ?_ | refine brW ff ?_ ?_) <;> intro h <;> try (exfalso; first | omega | contradiction)))
      | false =>
        have ff := (cj @h0 <| cj @hi1 <| cj @hi2 <| cj @hi <| cj @h1 <| Tryz.results19)
        repeat any_goals (first | refine stW ?_ | exact lfW ff | refine ruW ff ?_ | refine caW ff (hs) ?_ | refine caW ff (hn) ?_ | refine caW ff (hsc) ?_ | refine cdW ff ?_ | ((first | refine bdW ff ?_ ?_ | refine bxW ff ?_ ?_ | refine bnW ff ?_ ?_ | refine brW ff ?_ ?_) <;> intro h <;> try (exfalso; first | omega | contradiction)))
set_option maxHeartbeats 1600000 in
theorem rslot_k10 (i l N : Int) (c : Bool) (h0 : ¬ N = 0) (hi1 : ¬ i < 0) (hi2 : ¬ N ≤ i) (hw : IntKind.i64.wrap (l + 1) = l + 1) (hs : AC Tryz.prog 17 [.agg [.c (.int .i64 l), .c (.bool c)]] (.c (.bool true))) (hn : AC Tryz.prog 30 [.c (.int .i64 10)] (.c (.int .i64 N))) (hsc : AC Tryz.prog 31 [.c (.int .i64 l)] (.c (.int .i64 (if l ≤ 1 then 2 else 3)))) :
    AC Tryz.prog 19 [.c (.int .i64 10), .c (.int .i64 i), .agg [.c (.int .i64 l), .c (.bool c)]] (.tup [.agg [.c (.int .i64 (slotS 10 i ⟨l, c⟩).level), .c (.bool (slotS 10 i ⟨l, c⟩).cramped)], .c (.int .i64 0)]) := by
  have e : (slotS 10 i ⟨l, c⟩) = ⟨l, true⟩ := by simp [slotS]
  rw [e]
  refine en Tryz.func19 Tryz.ntmps19 ?_
  have ff := (cj @h0 <| cj @hi1 <| cj @hi2 <| Tryz.results19)
  repeat any_goals (first | refine stW ?_ | exact lfW ff | refine ruW ff ?_ | refine caW ff (hs) ?_ | refine caW ff (hn) ?_ | refine cdW ff ?_ | ((first | refine bdW ff ?_ ?_ | refine bxW ff ?_ ?_ | refine bnW ff ?_ ?_ | refine brW ff ?_ ?_) <;> intro h <;> try (exfalso; first | omega | contradiction)))
set_option maxHeartbeats 1600000 in
theorem rslot_k11 (i l N : Int) (c : Bool) (h0 : ¬ N = 0) (hi1 : ¬ i < 0) (hi2 : ¬ N ≤ i) (hw : IntKind.i64.wrap (l + 1) = l + 1) (hs : AC Tryz.prog 17 [.agg [.c (.int .i64 l), .c (.bool c)]] (.c (.bool true))) (hn : AC Tryz.prog 30 [.c (.int .i64 11)] (.c (.int .i64 N))) (hsc : AC Tryz.prog 31 [.c (.int .i64 l)] (.c (.int .i64 (if l ≤ 1 then 2 else 3)))) :
    AC Tryz.prog 19 [.c (.int .i64 11), .c (.int .i64 i), .agg [.c (.int .i64 l), .c (.bool c)]] (.tup [.agg [.c (.int .i64 (slotS 11 i ⟨l, c⟩).level), .c (.bool (slotS 11 i ⟨l, c⟩).cramped)], .c (.int .i64 0)]) := by
  have e : (slotS 11 i ⟨l, c⟩) = ⟨l, c⟩ := by simp [slotS]
  rw [e]
  refine en Tryz.func19 Tryz.ntmps19 ?_
  have ff := (cj @h0 <| cj @hi1 <| cj @hi2 <| Tryz.results19)
  repeat any_goals (first | refine stW ?_ | exact lfW ff | refine ruW ff ?_ | refine caW ff (hs) ?_ | refine caW ff (hn) ?_ | refine cdW ff ?_ | ((first | refine bdW ff ?_ ?_ | refine bxW ff ?_ ?_ | refine bnW ff ?_ ?_ | refine brW ff ?_ ?_) <;> intro h <;> try (exfalso; first | omega | contradiction)))
set_option maxHeartbeats 1600000 in
theorem rslot_k12 (i l N : Int) (c : Bool) (h0 : ¬ N = 0) (hi1 : ¬ i < 0) (hi2 : ¬ N ≤ i) (hw : IntKind.i64.wrap (l + 1) = l + 1) (hs : AC Tryz.prog 17 [.agg [.c (.int .i64 l), .c (.bool c)]] (.c (.bool true))) (hn : AC Tryz.prog 30 [.c (.int .i64 12)] (.c (.int .i64 N))) (hsc : AC Tryz.prog 31 [.c (.int .i64 l)] (.c (.int .i64 (if l ≤ 1 then 2 else 3)))) :
    AC Tryz.prog 19 [.c (.int .i64 12), .c (.int .i64 i), .agg [.c (.int .i64 l), .c (.bool c)]] (.tup [.agg [.c (.int .i64 (slotS 12 i ⟨l, c⟩).level), .c (.bool (slotS 12 i ⟨l, c⟩).cramped)], .c (.int .i64 0)]) := by
  have e : (slotS 12 i ⟨l, c⟩) = ⟨if l < 1 then 1 else l, c⟩ := by simp [slotS]
  rw [e]
  refine en Tryz.func19 Tryz.ntmps19 ?_
  have ff := (cj @h0 <| cj @hi1 <| cj @hi2 <| Tryz.results19)
  repeat any_goals (first | refine stW ?_ | exact lfW ff | refine ruW ff ?_ | refine caW ff (hs) ?_ | refine caW ff (hn) ?_ | refine cdW ff ?_ | ((first | refine bdW ff ?_ ?_ | refine bxW ff ?_ ?_ | refine bnW ff ?_ ?_ | refine brW ff ?_ ?_) <;> intro h <;> try (exfalso; first | omega | contradiction)))
set_option maxHeartbeats 1600000 in
theorem rslot25_a (k i : Int) (s : Style) : AC Tryz.prog 19 [.c (.int .i64 k), .c (.int .i64 i), styleV s] (styEV (slotR k i s)) := by
  have hs := rstvalid_a s
  have hn := rslots_a k
  have hsc := rscript25_a s.level
  obtain ⟨N, hN⟩ : ∃ N, slotN k = N := ⟨_, rfl⟩
  obtain ⟨ok, hok⟩ : ∃ b, s.ok = b := ⟨_, rfl⟩
  unfold slotR
  rw [hok, hN]
  rw [hok] at hs
  rw [hN] at hn
  cases ok with
  | false =>
    rw [if_pos (.inl rfl)]
    obtain ⟨l, c⟩ := s
    unfold styEV styleV errV
    unfold styleV at hs
    refine en Tryz.func19 Tryz.ntmps19 ?_
    have ff := (Tryz.results19)
    repeat any_goals (first | refine stW ?_ | exact lfW ff | refine ruW ff ?_ | refine caW ff (hs) ?_ | refine cdW ff ?_ | ((first | refine bdW ff ?_ ?_ | refine bxW ff ?_ ?_ | refine bnW ff ?_ ?_ | refine brW ff ?_ ?_) <;> intro h <;> try (exfalso; first | omega | contradiction)))
  | true =>
  have hl : 0 ≤ s.level ∧ s.level ≤ 3 := by unfold Style.ok at hok; simpa using hok
  by_cases h0 : N = 0
  · rw [if_pos (.inr h0)]
    subst h0
    obtain ⟨l, c⟩ := s
    unfold styEV styleV errV
    unfold styleV at hs
    refine en Tryz.func19 Tryz.ntmps19 ?_
    have ff := (Tryz.results19)
    repeat any_goals (first | refine stW ?_ | exact lfW ff | refine ruW ff ?_ | refine caW ff (hs) ?_ | refine caW ff (hn) ?_ | refine cdW ff ?_ | ((first | refine bdW ff ?_ ?_ | refine bxW ff ?_ ?_ | refine bnW ff ?_ ?_ | refine brW ff ?_ ?_) <;> intro h <;> try (exfalso; first | omega | contradiction)))
  rw [if_neg (fun h => h.elim (fun h => by cases h) h0)]
  by_cases hr : i < 0 ∨ N ≤ i
  · rw [if_pos hr]
    obtain ⟨l, c⟩ := s
    unfold styEV styleV errV
    unfold styleV at hs
    refine en Tryz.func19 Tryz.ntmps19 ?_
    rcases hr with hr | hr
    · have ff := (cj @h0 <| cj @hr <| Tryz.results19)
      repeat any_goals (first | refine stW ?_ | exact lfW ff | refine ruW ff ?_ | refine caW ff (hs) ?_ | refine caW ff (hn) ?_ | refine cdW ff ?_ | ((first | refine bdW ff ?_ ?_ | refine bxW ff ?_ ?_ | refine bnW ff ?_ ?_ | refine brW ff ?_ ?_) <;> intro h <;> try (exfalso; first | omega | contradiction)))
    · by_cases hi : i < 0
      · have ff := (cj @h0 <| cj @hi <| Tryz.results19)
        repeat any_goals (first | refine stW ?_ | exact lfW ff | refine ruW ff ?_ | refine caW ff (hs) ?_ | refine caW ff (hn) ?_ | refine cdW ff ?_ | ((first | refine bdW ff ?_ ?_ | refine bxW ff ?_ ?_ | refine bnW ff ?_ ?_ | refine brW ff ?_ ?_) <;> intro h <;> try (exfalso; first | omega | contradiction)))
      · have ff := (cj @h0 <| cj @hi <| cj @hr <| Tryz.results19)
        repeat any_goals (first | refine stW ?_ | exact lfW ff | refine ruW ff ?_ | refine caW ff (hs) ?_ | refine caW ff (hn) ?_ | refine cdW ff ?_ | ((first | refine bdW ff ?_ ?_ | refine bxW ff ?_ ?_ | refine bnW ff ?_ ?_ | refine brW ff ?_ ?_) <;> intro h <;> try (exfalso; first | omega | contradiction)))
  rw [if_neg hr]
  have hi1 : ¬ i < 0 := fun h => hr (.inl h)
  have hi2 : ¬ N ≤ i := fun h => hr (.inr h)
  have hk : k = 5 ∨ k = 6 ∨ k = 7 ∨ k = 8 ∨ k = 9 ∨ k = 10 ∨ k = 11 ∨ k = 12 := by
    have := slotN_in (k := k) (by rw [hN]; exact h0)
    omega
  obtain ⟨l, c⟩ := s
  simp only at hl hsc
  have hw : IntKind.i64.wrap (l + 1) = l + 1 := wrap_i64 (by omega) (by omega)
  unfold styEV styleV errV
  unfold styleV at hs
  unfold scriptL at hsc
  clear hr hok
  rcases hk with rfl | rfl | rfl | rfl | rfl | rfl | rfl | rfl
  · exact rslot_k5 i l N c h0 hi1 hi2 hw hs hn hsc
  · exact rslot_k6 i l N c h0 hi1 hi2 hw hs hn hsc
  · exact rslot_k7 i l N c h0 hi1 hi2 hw hs hn hsc
  · exact rslot_k8 i l N c h0 hi1 hi2 hw hs hn hsc
  · exact rslot_k9 i l N c h0 hi1 hi2 hw hs hn hsc
  · exact rslot_k10 i l N c h0 hi1 hi2 hw hs hn hsc
  · exact rslot_k11 i l N c h0 hi1 hi2 hw hs hn hsc
  · exact rslot_k12 i l N c h0 hi1 hi2 hw hs hn hsc
end Go.Proofs.YteacdpklcopedaaGreat
