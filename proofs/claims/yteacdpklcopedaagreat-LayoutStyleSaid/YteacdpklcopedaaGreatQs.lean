/-
  Styles of slots (layer 25) on the abstract machine, both sides.
-/
import Derived.Test.YteacdpklcopedaaGreatSt
import Derived.Test.YteacdpklcopedaaGreatTz
import Derived.Test.YteacdpklcopedaaGreatHa
namespace Go.Proofs.YteacdpklcopedaaGreat
open Go.RowKit
set_option linter.unusedSimpArgs false
set_option linter.unusedVariables false
set_option maxRecDepth 100000

def slotN (k : Int) : Int := if k = 5 ∨ k = 6 ∨ k = 7 ∨ k = 8 then 2 else if k = 9 then 3 else if k = 10 ∨ k = 11 then 1 else if k = 12 then 256 else 0
def scriptL (l : Int) : Int := if l ≤ 1 then 2 else 3
def slotS (k i : Int) (s : Style) : Style :=
  if k = 5 then ⟨if s.level + 1 ≤ 3 then s.level + 1 else 3, s.cramped || decide (i = 1)⟩
  else if k = 6 then (if i = 0 then ⟨3, s.cramped⟩ else ⟨s.level, true⟩)
  else if k = 7 ∨ k = 8 ∨ k = 9 then (if i = 0 then s else ⟨scriptL s.level, s.cramped || (decide (i = 1) && !decide (k = 8))⟩)
  else if k = 10 then ⟨s.level, true⟩
  else if k = 12 then ⟨if s.level < 1 then 1 else s.level, s.cramped⟩
  else s
def slotR (k i : Int) (s : Style) : Style × Int :=
  if s.ok = false ∨ slotN k = 0 then (⟨0, false⟩, 1) else if i < 0 ∨ slotN k ≤ i then (⟨0, false⟩, 2) else (slotS k i s, 0)
def styEV (r : Style × Int) : V := .tup [styleV r.1, errV r.2]
theorem rslots_a (k : Int) : AC Tryz.prog 30 [.c (.int .i64 k)] (.c (.int .i64 (slotN k))) := by
  unfold slotN
  by_cases h1 : k = 5 ∨ k = 6 ∨ k = 7 ∨ k = 8
  · rw [if_pos h1]
    refine en Tryz.func30 Tryz.ntmps30 ?_
    rcases h1 with h | h | h | h
    · have ff := (cj @h <| Tryz.results30)
      repeat any_goals (first | refine stW ?_ | exact lfW ff | refine ruW ff ?_ | refine cdW ff ?_ | ((first | refine bdW ff ?_ ?_ | refine bxW ff ?_ ?_ | refine bnW ff ?_ ?_ | refine brW ff ?_ ?_) <;> intro h <;> try (exfalso; first | omega | contradiction)))
    · have ff := (cj @h <| Tryz.results30)
      repeat any_goals (first | refine stW ?_ | exact lfW ff | refine ruW ff ?_ | refine cdW ff ?_ | ((first | refine bdW ff ?_ ?_ | refine bxW ff ?_ ?_ | refine bnW ff ?_ ?_ | refine brW ff ?_ ?_) <;> intro h <;> try (exfalso; first | omega | contradiction)))
    · have ff := (cj @h <| Tryz.results30)
      repeat any_goals (first | refine stW ?_ | exact lfW ff | refine ruW ff ?_ | refine cdW ff ?_ | ((first | refine bdW ff ?_ ?_ | refine bxW ff ?_ ?_ | refine bnW ff ?_ ?_ | refine brW ff ?_ ?_) <;> intro h <;> try (exfalso; first | omega | contradiction)))
    · have ff := (cj @h <| Tryz.results30)
      repeat any_goals (first | refine stW ?_ | exact lfW ff | refine ruW ff ?_ | refine cdW ff ?_ | ((first | refine bdW ff ?_ ?_ | refine bxW ff ?_ ?_ | refine bnW ff ?_ ?_ | refine brW ff ?_ ?_) <;> intro h <;> try (exfalso; first | omega | contradiction)))
  rw [if_neg h1]
  by_cases h2 : k = 9
  · rw [if_pos h2]
    refine en Tryz.func30 Tryz.ntmps30 ?_
    have ff := (cj @h2 <| Tryz.results30)
    repeat any_goals (first | refine stW ?_ | exact lfW ff | refine ruW ff ?_ | refine cdW ff ?_ | ((first | refine bdW ff ?_ ?_ | refine bxW ff ?_ ?_ | refine bnW ff ?_ ?_ | refine brW ff ?_ ?_) <;> intro h <;> try (exfalso; first | omega | contradiction)))
  rw [if_neg h2]
  by_cases h3 : k = 10 ∨ k = 11
  · rw [if_pos h3]
    refine en Tryz.func30 Tryz.ntmps30 ?_
    rcases h3 with h | h
    · have ff := (cj @h <| Tryz.results30)
      repeat any_goals (first | refine stW ?_ | exact lfW ff | refine ruW ff ?_ | refine cdW ff ?_ | ((first | refine bdW ff ?_ ?_ | refine bxW ff ?_ ?_ | refine bnW ff ?_ ?_ | refine brW ff ?_ ?_) <;> intro h <;> try (exfalso; first | omega | contradiction)))
    · have ff := (cj @h <| Tryz.results30)
      repeat any_goals (first | refine stW ?_ | exact lfW ff | refine ruW ff ?_ | refine cdW ff ?_ | ((first | refine bdW ff ?_ ?_ | refine bxW ff ?_ ?_ | refine bnW ff ?_ ?_ | refine brW ff ?_ ?_) <;> intro h <;> try (exfalso; first | omega | contradiction)))
  rw [if_neg h3]
  by_cases h4 : k = 12
  · rw [if_pos h4]
    refine en Tryz.func30 Tryz.ntmps30 ?_
    have ff := (cj @h4 <| Tryz.results30)
    repeat any_goals (first | refine stW ?_ | exact lfW ff | refine ruW ff ?_ | refine cdW ff ?_ | ((first | refine bdW ff ?_ ?_ | refine bxW ff ?_ ?_ | refine bnW ff ?_ ?_ | refine brW ff ?_ ?_) <;> intro h <;> try (exfalso; first | omega | contradiction)))
  rw [if_neg h4]
  simp only [not_or] at h1 h3
  obtain ⟨a1, a2, a3, a4⟩ := h1
  obtain ⟨b1, b2⟩ := h3
  refine en Tryz.func30 Tryz.ntmps30 ?_
  have ff := (cj @a1 <| cj @a2 <| cj @a3 <| cj @a4 <| cj @h2 <| cj @b1 <| cj @b2 <| cj @h4 <| Tryz.results30)
  repeat any_goals (first | refine stW ?_ | exact lfW ff | refine ruW ff ?_ | refine cdW ff ?_ | ((first | refine bdW ff ?_ ?_ | refine bxW ff ?_ ?_ | refine bnW ff ?_ ?_ | refine brW ff ?_ ?_) <;> intro h <;> try (exfalso; first | omega | contradiction)))
theorem rscript25_a (l : Int) : AC Tryz.prog 31 [.c (.int .i64 l)] (.c (.int .i64 (scriptL l))) := by
  unfold scriptL
  by_cases h1 : l ≤ 1
  · rw [if_pos h1]
    refine en Tryz.func31 Tryz.ntmps31 ?_
    have ff := (cj @h1 <| Tryz.results31)
    repeat any_goals (first | refine stW ?_ | exact lfW ff | refine ruW ff ?_ | refine cdW ff ?_ | ((first | refine bdW ff ?_ ?_ | refine bxW ff ?_ ?_ | refine bnW ff ?_ ?_ | refine brW ff ?_ ?_) <;> intro h <;> try (exfalso; first | omega | contradiction)))
  · rw [if_neg h1]
    refine en Tryz.func31 Tryz.ntmps31 ?_
    have ff := (cj @h1 <| Tryz.results31)
    repeat any_goals (first | refine stW ?_ | exact lfW ff | refine ruW ff ?_ | refine cdW ff ?_ | ((first | refine bdW ff ?_ ?_ | refine bxW ff ?_ ?_ | refine bnW ff ?_ ?_ | refine brW ff ?_ ?_) <;> intro h <;> try (exfalso; first | omega | contradiction)))
theorem pnext_a (l : Int) (h0 : 0 ≤ l) (h3 : l ≤ 3) : AC Tryz.prog 45 [.c (.int .i64 l)] (.c (.int .i64 (if l + 1 ≤ 3 then l + 1 else 3))) := by
  have w : IntKind.i64.wrap (l + 1) = l + 1 := wrap_i64 (by omega) (by omega)
  have e : (if (3 : Int) < l + 1 then (3 : Int) else l + 1) = if l + 1 ≤ 3 then l + 1 else 3 := by split <;> split <;> omega
  refine en Tryz.func45 Tryz.ntmps45 ?_
  have ff := (cj @w <| cj @e <| Tryz.results45)
  repeat any_goals (first | refine stW ?_ | exact lfW ff | refine ruW ff ?_ | refine cdW ff ?_ | ((first | refine bdW ff ?_ ?_ | refine bxW ff ?_ ?_ | refine bnW ff ?_ ?_ | refine brW ff ?_ ?_) <;> intro h <;> try (exfalso; first | omega | contradiction)))
theorem pscript25_a (l : Int) (h0 : 0 ≤ l) (h3 : l ≤ 3) : AC Tryz.prog 48 [.c (.int .i64 l)] (.c (.int .i64 (scriptL l))) := by
  have hl : l = 0 ∨ l = 1 ∨ l = 2 ∨ l = 3 := by omega
  refine en Tryz.func48 Tryz.ntmps48 ?_
  rcases hl with rfl | rfl | rfl | rfl
  · have ff := (cj @scriptL.eq_1 <| Tryz.results48)
    repeat any_goals (first | refine stW ?_ | exact lfW ff | refine ruW ff ?_ | refine cdW ff ?_ | ((first | refine bdW ff ?_ ?_ | refine bxW ff ?_ ?_ | refine bnW ff ?_ ?_ | refine brW ff ?_ ?_) <;> intro h <;> try (exfalso; first | omega | contradiction)))
  · have ff := (cj @scriptL.eq_1 <| Tryz.results48)
    repeat any_goals (first | refine stW ?_ | exact lfW ff | refine ruW ff ?_ | refine cdW ff ?_ | ((first | refine bdW ff ?_ ?_ | refine bxW ff ?_ ?_ | refine bnW ff ?_ ?_ | refine brW ff ?_ ?_) <;> intro h <;> try (exfalso; first | omega | contradiction)))
  · have ff := (cj @scriptL.eq_1 <| Tryz.results48)
    repeat any_goals (first | refine stW ?_ | exact lfW ff | refine ruW ff ?_ | refine cdW ff ?_ | ((first | refine bdW ff ?_ ?_ | refine bxW ff ?_ ?_ | refine bnW ff ?_ ?_ | refine brW ff ?_ ?_) <;> intro h <;> try (exfalso; first | omega | contradiction)))
  · have ff := (cj @scriptL.eq_1 <| Tryz.results48)
    repeat any_goals (first | refine stW ?_ | exact lfW ff | refine ruW ff ?_ | refine cdW ff ?_ | ((first | refine bdW ff ?_ ?_ | refine bxW ff ?_ ?_ | refine bnW ff ?_ ?_ | refine brW ff ?_ ?_) <;> intro h <;> try (exfalso; first | omega | contradiction)))
theorem pleast_a (l : Int) : AC Tryz.prog 46 [.c (.int .i64 l)] (.c (.int .i64 3)) := by
  refine en Tryz.func46 Tryz.ntmps46 ?_
  have ff := (Tryz.results46)
  repeat any_goals (first | refine stW ?_ | exact lfW ff | refine ruW ff ?_ | refine cdW ff ?_ | ((first | refine bdW ff ?_ ?_ | refine bxW ff ?_ ?_ | refine bnW ff ?_ ?_ | refine brW ff ?_ ?_) <;> intro h <;> try (exfalso; first | omega | contradiction)))
theorem psame25_a (l : Int) : AC Tryz.prog 47 [.c (.int .i64 l)] (.c (.int .i64 l)) := by
  refine en Tryz.func47 Tryz.ntmps47 ?_
  have ff := (Tryz.results47)
  repeat any_goals (first | refine stW ?_ | exact lfW ff | refine ruW ff ?_ | refine cdW ff ?_ | ((first | refine bdW ff ?_ ?_ | refine bxW ff ?_ ?_ | refine bnW ff ?_ ?_ | refine brW ff ?_ ?_) <;> intro h <;> try (exfalso; first | omega | contradiction)))
theorem pcell_a (l : Int) : AC Tryz.prog 49 [.c (.int .i64 l)] (.c (.int .i64 (if l < 1 then 1 else l))) := by
  refine en Tryz.func49 Tryz.ntmps49 ?_
  have ff := (Tryz.results49)
  repeat any_goals (first | refine stW ?_ | exact lfW ff | refine ruW ff ?_ | refine cdW ff ?_ | ((first | refine bdW ff ?_ ?_ | refine bxW ff ?_ ?_ | refine bnW ff ?_ ?_ | refine brW ff ?_ ?_) <;> intro h <;> try (exfalso; first | omega | contradiction)))
/-- a rule: the level's function, and whether the slot is cramped -/
def ruC (f : FuncId) (b : Bool) : List C := [.fnc f, .bool b]
def rulesV : List V := [.c (.sl []), .c (.sl []), .c (.sl []), .c (.sl []), .c (.sl []), .c (.sl [ruC 45 false, ruC 45 true]), .c (.sl [ruC 46 false, ruC 47 true]), .c (.sl [ruC 47 false, ruC 48 true]), .c (.sl [ruC 47 false, ruC 48 false]), .c (.sl [ruC 47 false, ruC 48 true, ruC 48 false]), .c (.sl [ruC 47 true]), .c (.sl [ruC 47 false]), .c (.sl [ruC 49 false])]
theorem prules_a : AC Tryz.prog 25 [] (.agg rulesV) := by
  unfold rulesV ruC
  refine en Tryz.func25 Tryz.ntmps25 ?_
  have ff := (Tryz.results25)
  repeat any_goals (first | refine stW ?_ | exact lfW ff | refine ruW ff ?_ | refine cdW ff ?_ | ((first | refine bdW ff ?_ ?_ | refine bxW ff ?_ ?_ | refine bnW ff ?_ ?_ | refine brW ff ?_ ?_) <;> intro h <;> try (exfalso; first | omega | contradiction)))
theorem pslot_e (k i : Int) (s : Style) (h : s.ok = false ∨ slotN k = 0) : AC Tryz.prog 15 [.c (.int .i64 k), .c (.int .i64 i), styleV s] (styEV (slotR k i s)) := by
  have hR : slotR k i s = (⟨0, false⟩, 1) := if_pos h
  have hs := stvalid_a s
  rw [hR]
  obtain ⟨OK, hOK⟩ : ∃ OK, s.ok = OK := ⟨_, rfl⟩
  rw [hOK] at hs h
  unfold styEV errV styleV
  unfold styleV at hs
  refine en Tryz.func15 Tryz.ntmps15 ?_
  cases OK with
  | false =>
    have ff := (Tryz.results15)
    repeat any_goals (first | refine stW ?_ | exact lfW ff | refine ruW ff ?_ | refine caW ff (hs) ?_ | refine cdW ff ?_ | ((first | refine bdW ff ?_ ?_ | refine bxW ff ?_ ?_ | refine bnW ff ?_ ?_ | refine brW ff ?_ ?_) <;> intro h <;> try (exfalso; first | omega | contradiction)))
  | true =>
    have h : slotN k = 0 := h.resolve_left (by simp)
    by_cases h5 : k < 5
    · have ff := (cj @h5 <| Tryz.results15)
      repeat any_goals (first | refine stW ?_ | exact lfW ff | refine ruW ff ?_ | refine caW ff (hs) ?_ | refine cdW ff ?_ | ((first | refine bdW ff ?_ ?_ | refine bxW ff ?_ ?_ | refine bnW ff ?_ ?_ | refine brW ff ?_ ?_) <;> intro h <;> try (exfalso; first | omega | contradiction)))
    · have h12 : 12 < k := by
        unfold slotN at h
        by_cases q1 : k = 5 ∨ k = 6 ∨ k = 7 ∨ k = 8
        · rw [if_pos q1] at h; omega
        rw [if_neg q1] at h
        by_cases q2 : k = 9
        · rw [if_pos q2] at h; omega
        rw [if_neg q2] at h
        by_cases q3 : k = 10 ∨ k = 11
        · rw [if_pos q3] at h; omega
        rw [if_neg q3] at h
        by_cases q4 : k = 12
        · rw [if_pos q4] at h; omega
        omega
      have ff := (cj @h5 <| cj @h12 <| Tryz.results15)
      repeat any_goals (first | refine stW ?_ | exact lfW ff | refine ruW ff ?_ | refine caW ff (hs) ?_ | refine cdW ff ?_ | ((first | refine bdW ff ?_ ?_ | refine bxW ff ?_ ?_ | refine bnW ff ?_ ?_ | refine brW ff ?_ ?_) <;> intro h <;> try (exfalso; first | omega | contradiction)))
end Go.Proofs.YteacdpklcopedaaGreat
