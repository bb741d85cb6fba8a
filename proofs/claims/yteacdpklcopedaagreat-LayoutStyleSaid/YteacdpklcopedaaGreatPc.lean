/-
  Texts of nodes on the abstract machine: the reference's checks.
-/
import Derived.Test.YteacdpklcopedaaGreatPb
namespace Go.Proofs.YteacdpklcopedaaGreat
open Go.RowKit
set_option linter.unusedSimpArgs false
set_option linter.unusedVariables false
set_option maxRecDepth 100000

theorem byte_at {s : ByteArray} {k : Nat} (h : k < s.size) : ∃ b, s.data.toList[k]? = some b ∧ s.data[k]? = some b ∧ s.data.toList.drop k = b :: s.data.toList.drop (k + 1) ∧ (k : Int) < (s.size : Int) ∧ (b.toNat < 256) := by
  have hl : k < s.data.toList.length := by simpa using h
  refine ⟨s.data.toList[k], List.getElem?_eq_getElem hl, ?_, List.drop_eq_getElem_cons hl, by omega, UInt8.toNat_lt _⟩
  rw [← Array.getElem?_toList]; exact List.getElem?_eq_getElem hl
theorem byte_end {s : ByteArray} {k : Nat} (h : ¬ k < s.size) : s.data.toList.drop k = [] := List.drop_of_length_le (by simp; omega)
theorem rletter_a (c : Int) : AC Tryz.prog 121 [.c (.int .u8 c)] (.c (.bool (letI_ c))) := by
  refine en Tryz.func121 Tryz.ntmps121 ?_
  have ff := (cj @letI_.eq_1 <| Tryz.results121)
  repeat any_goals (first | refine stW ?_ | exact lfW ff | refine ruW ff ?_ | refine cdW ff ?_ | ((first | refine bdW ff ?_ ?_ | refine bxW ff ?_ ?_ | refine bnW ff ?_ ?_ | refine brW ff ?_ ?_) <;> intro h <;> try (exfalso; first | omega | contradiction)))
theorem rdigit_a (c : Int) : AC Tryz.prog 123 [.c (.int .u8 c)] (.c (.bool (digI c))) := by
  refine en Tryz.func123 Tryz.ntmps123 ?_
  have ff := (cj @digI.eq_1 <| Tryz.results123)
  repeat any_goals (first | refine stW ?_ | exact lfW ff | refine ruW ff ?_ | refine cdW ff ?_ | ((first | refine bdW ff ?_ ?_ | refine bxW ff ?_ ?_ | refine bnW ff ?_ ?_ | refine brW ff ?_ ?_) <;> intro h <;> try (exfalso; first | omega | contradiction)))
theorem rhas_a (s : ByteArray) (c : Int) (hs : s.size ≤ maxLen) : AC Tryz.prog 84 [.c (.str s), .c (.int .u8 c)] (.c (.bool (hasB s c))) := by
  unfold maxLen at hs
  refine en Tryz.func84 Tryz.ntmps84 ?_
  have ff := (Tryz.results84)
  repeat any_goals (first | refine stW ?_ | exact lfW ff | refine ruW ff ?_ | refine cdW ff ?_ | ((first | refine bdW ff ?_ ?_ | refine bxW ff ?_ ?_ | refine bnW ff ?_ ?_ | refine brW ff ?_ ?_) <;> intro h <;> try (exfalso; first | omega | contradiction)))
  refine lp (ι := { k : Nat // k ≤ s.size ∧ hasB s c = (s.data.toList.drop k).any fun b => decide ((b.toNat : Int) = c) }) (fun k => [(4, .c (.bool false)), (5, .c (.int .i64 (k.1 : Int)))]) (fun _ => []) (fun k => s.size - k.1) ⟨0, by simp [hasB]⟩ ?_ ?_
  all_goals simp only [puts, List.foldl_cons, List.foldl_nil, List.set_cons_zero, List.set_cons_succ]
  · refine Le.weak (by simp [subT])
  · rintro ⟨k, hk, hI⟩
    simp only
    by_cases hlt : k < s.size
    · obtain ⟨b, hb, hb', hd, hlt', _⟩ := byte_at hlt
      rw [hd, List.any_cons] at hI
      by_cases h : (b.toNat : Int) = c
      · rw [decide_eq_true h, Bool.true_or] at hI
        have ff := (cj @hlt <| cj @hlt' <| cj @hb <| cj @hb' <| cj @h <| Tryz.results84)
        repeat any_goals (first | refine stW ?_ | exact lfW ff | refine ruW ff ?_ | refine cdW ff ?_ | ((first | refine bdW ff ?_ ?_ | refine bxW ff ?_ ?_ | refine bnW ff ?_ ?_ | refine brW ff ?_ ?_) <;> intro h <;> try (exfalso; first | omega | contradiction)))
      · rw [decide_eq_false h, Bool.false_or] at hI
        have ff := (cj @hlt <| cj @hlt' <| cj @hb <| cj @hb' <| cj @h <| Tryz.results84)
        repeat any_goals (first | refine stW ?_ | exact lfW ff | refine ruW ff ?_ | refine cdW ff ?_ | ((first | refine bdW ff ?_ ?_ | refine bxW ff ?_ ?_ | refine bnW ff ?_ ?_ | refine brW ff ?_ ?_) <;> intro h <;> try (exfalso; first | omega | contradiction)))
        exact ⟨⟨k + 1, by omega, hI⟩, by simp only; omega, wd 0⟩
    · rw [byte_end hlt] at hI
      have hlt' : ¬ (k : Int) < (s.size : Int) := by omega
      have ff := (cj @hlt <| cj @hlt' <| Tryz.results84)
      repeat any_goals (first | refine stW ?_ | exact lfW ff | refine ruW ff ?_ | refine cdW ff ?_ | ((first | refine bdW ff ?_ ?_ | refine bxW ff ?_ ?_ | refine bnW ff ?_ ?_ | refine brW ff ?_ ?_) <;> intro h <;> try (exfalso; first | omega | contradiction)))
theorem rchar_a (c : Int) : AC Tryz.prog 120 [.c (.int .u8 c)] (.c (.bool (charI c))) := by
  have h1 := rletter_a c
  have h2 := rhas_a signsD c (by unfold maxLen; decide)
  unfold charI
  unfold signsD at *
  cases e1 : letI_ c with
  | true =>
    rw [e1] at h1
    refine en Tryz.func120 Tryz.ntmps120 ?_
    have ff := (Tryz.results120)
    repeat any_goals (first | refine stW ?_ | exact lfW ff | refine ruW ff ?_ | refine caW ff (h1) ?_ | refine cdW ff ?_ | ((first | refine bdW ff ?_ ?_ | refine bxW ff ?_ ?_ | refine bnW ff ?_ ?_ | refine brW ff ?_ ?_) <;> intro h <;> try (exfalso; first | omega | contradiction)))
  | false =>
    rw [e1] at h1
    refine en Tryz.func120 Tryz.ntmps120 ?_
    have ff := (Tryz.results120)
    repeat any_goals (first | refine stW ?_ | exact lfW ff | refine ruW ff ?_ | refine caW ff (h1) ?_ | refine caW ff (h2) ?_ | refine cdW ff ?_ | ((first | refine bdW ff ?_ ?_ | refine bxW ff ?_ ?_ | refine bnW ff ?_ ?_ | refine brW ff ?_ ?_) <;> intro h <;> try (exfalso; first | omega | contradiction)))
def txtsC (l : List ByteArray) : C := .sl (l.map fun t => [.str t])
theorem rin_a (l : List ByteArray) (s : ByteArray) (hl : l.length ≤ 1000000) : AC Tryz.prog 82 [.c (txtsC l), .c (.str s)] (.c (.bool (inT l s))) := by
  obtain ⟨rs, hrs⟩ : ∃ rs, (l.map fun t => [C.str t]) = rs := ⟨_, rfl⟩
  have hrl : rs.length = l.length := by rw [← hrs, List.length_map]
  unfold txtsC
  rw [hrs]
  refine en Tryz.func82 Tryz.ntmps82 ?_
  have ff := (cj @hrl <| Tryz.results82)
  repeat any_goals (first | refine stW ?_ | exact lfW ff | refine ruW ff ?_ | refine cdW ff ?_ | ((first | refine bdW ff ?_ ?_ | refine bxW ff ?_ ?_ | refine bnW ff ?_ ?_ | refine brW ff ?_ ?_) <;> intro h <;> try (exfalso; first | omega | contradiction)))
  refine lp (ι := { k : Nat // k ≤ l.length ∧ inT l s = inT (l.drop k) s }) (fun k => [(4, .c (.bool false)), (5, .c (.int .i64 (k.1 : Int)))]) (fun _ => []) (fun k => l.length - k.1) ⟨0, by simp⟩ ?_ ?_
  all_goals simp only [puts, List.foldl_cons, List.foldl_nil, List.set_cons_zero, List.set_cons_succ]
  · refine Le.weak (by simp [subT])
  · rintro ⟨k, hk, hI⟩
    simp only
    by_cases hlt : k < l.length
    · obtain ⟨t, ht⟩ : ∃ t, l[k]? = some t := ⟨_, List.getElem?_eq_getElem hlt⟩
      have hrk : rs[k]? = some [C.str t] := by rw [← hrs, List.getElem?_map, ht]; rfl
      have hltr : k < rs.length := by omega
      have hrk' := gx hrk
      rw [List.drop_eq_getElem_cons hlt, gx ht] at hI
      have hst : inT (t :: l.drop (k + 1)) s = (decide (t = s) || inT (l.drop (k + 1)) s) := rfl
      rw [hst] at hI
      by_cases h : t = s
      · rw [decide_eq_true h, Bool.true_or] at hI
        have ff := (cj @hrl <| cj @hlt <| cj @hltr <| cj @hrk <| cj @hrk' <| cj @h <| Tryz.results82)
        repeat any_goals (first | refine stW ?_ | exact lfW ff | refine ruW ff ?_ | refine cdW ff ?_ | ((first | refine bdW ff ?_ ?_ | refine bxW ff ?_ ?_ | refine bnW ff ?_ ?_ | refine brW ff ?_ ?_) <;> intro h <;> try (exfalso; first | omega | contradiction)))
      · rw [decide_eq_false h, Bool.false_or] at hI
        have ff := (cj @hrl <| cj @hlt <| cj @hltr <| cj @hrk <| cj @hrk' <| cj @h <| Tryz.results82)
        repeat any_goals (first | refine stW ?_ | exact lfW ff | refine ruW ff ?_ | refine cdW ff ?_ | ((first | refine bdW ff ?_ ?_ | refine bxW ff ?_ ?_ | refine bnW ff ?_ ?_ | refine brW ff ?_ ?_) <;> intro h <;> try (exfalso; first | omega | contradiction)))
        exact ⟨⟨k + 1, by omega, hI⟩, by simp only; omega, wd 0⟩
    · rw [List.drop_of_length_le (by omega)] at hI
      have e : inT [] s = false := rfl
      rw [e] at hI
      have ff := (cj @hrl <| cj @hlt <| Tryz.results82)
      repeat any_goals (first | refine stW ?_ | exact lfW ff | refine ruW ff ?_ | refine cdW ff ?_ | ((first | refine bdW ff ?_ ?_ | refine bxW ff ?_ ?_ | refine bnW ff ?_ ?_ | refine brW ff ?_ ?_) <;> intro h <;> try (exfalso; first | omega | contradiction)))
theorem raccents_a : AC Tryz.prog 83 [] (.c (txtsC accL)) := by
  refine en Tryz.func83 Tryz.ntmps83 ?_
  have ff := (cj @txtsC.eq_1 <| cj @accL.eq_1 <| Tryz.results83)
  repeat any_goals (first | refine stW ?_ | exact lfW ff | refine ruW ff ?_ | refine cdW ff ?_ | ((first | refine bdW ff ?_ ?_ | refine bxW ff ?_ ?_ | refine bnW ff ?_ ?_ | refine brW ff ?_ ?_) <;> intro h <;> try (exfalso; first | omega | contradiction)))
theorem rkeywords_a : AC Tryz.prog 122 [] (.c (txtsC keywL)) := by
  refine en Tryz.func122 Tryz.ntmps122 ?_
  have ff := (cj @txtsC.eq_1 <| cj @keywL.eq_1 <| Tryz.results122)
  repeat any_goals (first | refine stW ?_ | exact lfW ff | refine ruW ff ?_ | refine cdW ff ?_ | ((first | refine bdW ff ?_ ?_ | refine bxW ff ?_ ?_ | refine bnW ff ?_ ?_ | refine brW ff ?_ ?_) <;> intro h <;> try (exfalso; first | omega | contradiction)))
theorem rprint_a (s : ByteArray) (hs : s.size ≤ maxLen) : AC Tryz.prog 81 [.c (.str s)] (.c (.bool (allB prtI s))) := by
  unfold maxLen at hs
  refine en Tryz.func81 Tryz.ntmps81 ?_
  have ff := (Tryz.results81)
  repeat any_goals (first | refine stW ?_ | exact lfW ff | refine ruW ff ?_ | refine cdW ff ?_ | ((first | refine bdW ff ?_ ?_ | refine bxW ff ?_ ?_ | refine bnW ff ?_ ?_ | refine brW ff ?_ ?_) <;> intro h <;> try (exfalso; first | omega | contradiction)))
  refine lp (ι := { k : Nat // k ≤ s.size ∧ allB prtI s = (s.data.toList.drop k).all fun b => prtI b.toNat }) (fun k => [(2, .c (.bool false)), (3, .c (.int .i64 (k.1 : Int)))]) (fun _ => []) (fun k => s.size - k.1) ⟨0, by simp [allB]⟩ ?_ ?_
  all_goals simp only [puts, List.foldl_cons, List.foldl_nil, List.set_cons_zero, List.set_cons_succ]
  · refine Le.weak (by simp [subT])
  · rintro ⟨k, hk, hI⟩
    simp only
    by_cases hlt : k < s.size
    · obtain ⟨b, hb, hb', hd, hlt', _⟩ := byte_at hlt
      rw [hd, List.all_cons] at hI
      obtain ⟨c, hc⟩ : ∃ c : Int, (b.toNat : Int) = c := ⟨_, rfl⟩
      rw [hc] at hI
      cases e : prtI c with
      | true =>
        rw [e, Bool.true_and] at hI
        simp [prtI] at e
        have ff := (cj @hlt <| cj @hlt' <| cj @hb <| cj @hb' <| cj @hc <| cj (e.1) <| cj (e.2) <| Tryz.results81)
        repeat any_goals (first | refine stW ?_ | exact lfW ff | refine ruW ff ?_ | refine cdW ff ?_ | ((first | refine bdW ff ?_ ?_ | refine bxW ff ?_ ?_ | refine bnW ff ?_ ?_ | refine brW ff ?_ ?_) <;> intro h <;> try (exfalso; first | omega | contradiction)))
        exact ⟨⟨k + 1, by omega, hI⟩, by simp only; omega, wd 0⟩
      | false =>
        rw [e, Bool.false_and] at hI
        simp [prtI] at e
        have ff := (cj @hlt <| cj @hlt' <| cj @hb <| cj @hb' <| cj @hc <| Tryz.results81)
        repeat any_goals (first | refine stW ?_ | exact lfW ff | refine ruW ff ?_ | refine cdW ff ?_ | ((first | refine bdW ff ?_ ?_ | refine bxW ff ?_ ?_ | refine bnW ff ?_ ?_ | refine brW ff ?_ ?_) <;> intro h <;> try (exfalso; first | omega | contradiction)))
    · rw [byte_end hlt] at hI
      have hlt' : ¬ (k : Int) < (s.size : Int) := by omega
      have ff := (cj @hlt <| cj @hlt' <| Tryz.results81)
      repeat any_goals (first | refine stW ?_ | exact lfW ff | refine ruW ff ?_ | refine cdW ff ?_ | ((first | refine bdW ff ?_ ?_ | refine bxW ff ?_ ?_ | refine bnW ff ?_ ?_ | refine brW ff ?_ ?_) <;> intro h <;> try (exfalso; first | omega | contradiction)))
set_option maxHeartbeats 1600000 in
theorem rsym_a (s : ByteArray) (hs : s.size ≤ maxLen) : AC Tryz.prog 79 [.c (.str s)] (.c (.bool (symB s))) := by
  unfold maxLen at hs
  have k1 := rkeywords_a
  have k2 := raccents_a
  have i1 := rin_a keywL s (by decide)
  have i2 := rin_a accL s (by decide)
  by_cases h1 : s.size = 1
  · obtain ⟨b, hb, hb', hd, hlt', _⟩ := byte_at (s := s) (k := 0) (by omega)
    have e : symB s = charI b.toNat := by
      unfold symB allB
      rw [if_pos h1]
      rw [List.drop_zero] at hd
      rw [hd, byte_end (by omega), List.all_cons, List.all_nil, Bool.and_true]
    rw [e]
    have hc := rchar_a b.toNat
    have h1' : (s.size : Int) = 1 := by omega
    refine en Tryz.func79 Tryz.ntmps79 ?_
    have ff := (cj @h1' <| cj @hb <| cj @hb' <| Tryz.results79)
    repeat any_goals (first | refine stW ?_ | exact lfW ff | refine ruW ff ?_ | refine caW ff (hc) ?_ | refine cdW ff ?_ | ((first | refine bdW ff ?_ ?_ | refine bxW ff ?_ ?_ | refine bnW ff ?_ ?_ | refine brW ff ?_ ?_) <;> intro h <;> try (exfalso; first | omega | contradiction)))
  · have h1' : ¬ (s.size : Int) = 1 := by omega
    have e : symB s = (allB letI_ s && (decide (2 ≤ s.size) && (decide (s.size ≤ 16) && (!inT keywL s && !inT accL s)))) := if_neg h1
    rw [e]
    refine en Tryz.func79 Tryz.ntmps79 ?_
    have ff := (cj @h1' <| Tryz.results79)
    repeat any_goals (first | refine stW ?_ | exact lfW ff | refine ruW ff ?_ | refine cdW ff ?_ | ((first | refine bdW ff ?_ ?_ | refine bxW ff ?_ ?_ | refine bnW ff ?_ ?_ | refine brW ff ?_ ?_) <;> intro h <;> try (exfalso; first | omega | contradiction)))
    refine lp (ι := { k : Nat // k ≤ s.size ∧ allB letI_ s = (s.data.toList.drop k).all fun b => letI_ b.toNat }) (fun k => [(2, .c (.bool false)), (3, .c (.int .i64 (k.1 : Int)))]) (fun _ => []) (fun k => s.size - k.1) ⟨0, by simp [allB]⟩ ?_ ?_
    all_goals simp only [puts, List.foldl_cons, List.foldl_nil, List.set_cons_zero, List.set_cons_succ]
    · refine Le.weak (by simp [subT])
    · rintro ⟨k, hk, hI⟩
      simp only
      by_cases hlt : k < s.size
      · obtain ⟨b, hb, hb', hd, hlt', _⟩ := byte_at hlt
        rw [hd, List.all_cons] at hI
        obtain ⟨c, hc⟩ : ∃ c : Int, (b.toNat : Int) = c := ⟨_, rfl⟩
        rw [hc] at hI
        have hl := rletter_a c
        cases e : letI_ c with
        | true =>
          rw [e, Bool.true_and] at hI
          rw [e] at hl
          have ff := (cj @hlt <| cj @hlt' <| cj @hb <| cj @hb' <| cj @hc <| Tryz.results79)
          repeat any_goals (first | refine stW ?_ | exact lfW ff | refine ruW ff ?_ | refine caW ff (hl) ?_ | refine cdW ff ?_ | ((first | refine bdW ff ?_ ?_ | refine bxW ff ?_ ?_ | refine bnW ff ?_ ?_ | refine brW ff ?_ ?_) <;> intro h <;> try (exfalso; first | omega | contradiction)))
          exact ⟨⟨k + 1, by omega, hI⟩, by simp only; omega, wd 0⟩
        | false =>
          rw [e, Bool.false_and] at hI
          rw [e] at hl
          have ff := (cj @hlt <| cj @hlt' <| cj @hb <| cj @hb' <| cj @hc <| Tryz.results79)
          repeat any_goals (first | refine stW ?_ | exact lfW ff | refine ruW ff ?_ | refine caW ff (hl) ?_ | refine cdW ff ?_ | ((first | refine bdW ff ?_ ?_ | refine bxW ff ?_ ?_ | refine bnW ff ?_ ?_ | refine brW ff ?_ ?_) <;> intro h <;> try (exfalso; first | omega | contradiction)))
      · rw [byte_end hlt] at hI
        rw [List.all_nil] at hI
        rw [hI, Bool.true_and]
        have hlt' : ¬ (k : Int) < (s.size : Int) := by omega
        by_cases g1 : 2 ≤ s.size
        · by_cases g2 : s.size ≤ 16
          · have g1' : (2 : Int) ≤ (s.size : Int) := by omega
            have g2' : (s.size : Int) ≤ 16 := by omega
            rw [decide_eq_true g1, decide_eq_true g2, Bool.true_and, Bool.true_and]
            have ff := (cj @hlt <| cj @hlt' <| cj @g1' <| cj @g2' <| Tryz.results79)
            repeat any_goals (first | refine stW ?_ | exact lfW ff | refine ruW ff ?_ | refine caW ff (k1) ?_ | refine caW ff (k2) ?_ | refine caW ff (i1) ?_ | refine caW ff (i2) ?_ | refine cdW ff ?_ | ((first | refine bdW ff ?_ ?_ | refine bxW ff ?_ ?_ | refine bnW ff ?_ ?_ | refine brW ff ?_ ?_) <;> intro h <;> try (exfalso; first | omega | contradiction)))
          · have g1' : (2 : Int) ≤ (s.size : Int) := by omega
            have g2' : ¬ (s.size : Int) ≤ 16 := by omega
            rw [decide_eq_true g1, decide_eq_false g2, Bool.true_and, Bool.false_and]
            have ff := (cj @hlt <| cj @hlt' <| cj @g1' <| cj @g2' <| Tryz.results79)
            repeat any_goals (first | refine stW ?_ | exact lfW ff | refine ruW ff ?_ | refine cdW ff ?_ | ((first | refine bdW ff ?_ ?_ | refine bxW ff ?_ ?_ | refine bnW ff ?_ ?_ | refine brW ff ?_ ?_) <;> intro h <;> try (exfalso; first | omega | contradiction)))
        · have g1' : ¬ (2 : Int) ≤ (s.size : Int) := by omega
          rw [decide_eq_false g1, Bool.false_and]
          have ff := (cj @hlt <| cj @hlt' <| cj @g1' <| Tryz.results79)
          repeat any_goals (first | refine stW ?_ | exact lfW ff | refine ruW ff ?_ | refine cdW ff ?_ | ((first | refine bdW ff ?_ ?_ | refine bxW ff ?_ ?_ | refine bnW ff ?_ ?_ | refine brW ff ?_ ?_) <;> intro h <;> try (exfalso; first | omega | contradiction)))
theorem numF_le (n : Nat) : ∀ (l : List UInt8) (k : Nat) (p q : Int), numF n l k p = some q → p ≤ q := fun l k p q h => (numF_cnt n l k p q h).1
set_option maxHeartbeats 1600000 in
theorem rnum_a (s : ByteArray) (hs : s.size ≤ maxLen) : AC Tryz.prog 80 [.c (.str s)] (.c (.bool (numR s))) := by
  unfold maxLen at hs
  obtain ⟨R, hR⟩ : ∃ R, numR s = R := ⟨_, rfl⟩
  rw [hR]
  refine en Tryz.func80 Tryz.ntmps80 ?_
  have ff := (Tryz.results80)
  repeat any_goals (first | refine stW ?_ | exact lfW ff | refine ruW ff ?_ | refine cdW ff ?_ | ((first | refine bdW ff ?_ ?_ | refine bxW ff ?_ ?_ | refine bnW ff ?_ ?_ | refine brW ff ?_ ?_) <;> intro h <;> try (exfalso; first | omega | contradiction)))
  refine lp (ι := { k : Nat × Nat // k.1 ≤ s.size ∧ k.2 ≤ k.1 ∧ R = (match numF s.size (s.data.toList.drop k.1) k.1 k.2 with | none => false | some p => decide (0 < s.size) && (decide (s.size ≤ 20) && decide (p ≤ 1))) }) (fun k => [(2, .c (.bool false)), (3, .c (.int .i64 (k.1.2 : Int))), (4, .c (.int .i64 (k.1.1 : Int)))]) (fun _ => []) (fun k => s.size - k.1.1) ⟨(0, 0), by simp, by simp, by rw [← hR]; rfl⟩ ?_ ?_
  all_goals simp only [puts, List.foldl_cons, List.foldl_nil, List.set_cons_zero, List.set_cons_succ]
  · refine Le.weak (by simp [subT])
  · rintro ⟨⟨k, p⟩, hk, hp, hI⟩
    simp only at hk hp hI ⊢
    by_cases hlt : k < s.size
    · obtain ⟨b, hb, hb', hd, hlt', _⟩ := byte_at hlt
      rw [hd] at hI
      simp only [numF] at hI
      obtain ⟨c, hc⟩ : ∃ c : Int, (b.toNat : Int) = c := ⟨_, rfl⟩
      rw [hc] at hI
      have hl := rdigit_a c
      by_cases g : c = 46 ∧ 0 < k ∧ k + 1 < s.size
      · rw [if_pos g] at hI
        obtain ⟨g1, g2, g3⟩ := g
        have g2' : (0 : Int) < (k : Int) := by omega
        have g3' : (k : Int) < (s.size : Int) - 1 := by omega
        have ff := (cj @hlt <| cj @hlt' <| cj @hb <| cj @hb' <| cj @hc <| cj @g1 <| cj @g2' <| cj @g3' <| Tryz.results80)
        repeat any_goals (first | refine stW ?_ | exact lfW ff | refine ruW ff ?_ | refine cdW ff ?_ | ((first | refine bdW ff ?_ ?_ | refine bxW ff ?_ ?_ | refine bnW ff ?_ ?_ | refine brW ff ?_ ?_) <;> intro h <;> try (exfalso; first | omega | contradiction)))
        exact ⟨⟨(k + 1, p + 1), by simp only; omega, by simp only; omega, by rw [hI]; rfl⟩, by simp only; omega, wd 0⟩
      · rw [if_neg g] at hI
        cases e : digI c with
        | true =>
          rw [if_pos e] at hI
          rw [e] at hl
          have ff := (cj @hlt <| cj @hlt' <| cj @hb <| cj @hb' <| cj @hc <| Tryz.results80)
          repeat any_goals (first | refine stW ?_ | exact lfW ff | refine ruW ff ?_ | refine caW ff (hl) ?_ | refine cdW ff ?_ | ((first | refine bdW ff ?_ ?_ | refine bxW ff ?_ ?_ | refine bnW ff ?_ ?_ | refine brW ff ?_ ?_) <;> intro h <;> try (exfalso; first | omega | contradiction)))
          all_goals first
            | (exfalso; simp at *; omega)
            | exact ⟨⟨(k + 1, p), by simp only; omega, by simp only; omega, hI⟩, by simp only; omega, wd 0⟩
        | false =>
          rw [if_neg (by rw [e]; simp)] at hI
          rw [e] at hl
          simp only at hI
          have ff := (cj @hlt <| cj @hlt' <| cj @hb <| cj @hb' <| cj @hc <| Tryz.results80)
          repeat any_goals (first | refine stW ?_ | exact lfW ff | refine ruW ff ?_ | refine caW ff (hl) ?_ | refine cdW ff ?_ | ((first | refine bdW ff ?_ ?_ | refine bxW ff ?_ ?_ | refine bnW ff ?_ ?_ | refine brW ff ?_ ?_) <;> intro h <;> try (exfalso; first | omega | contradiction)))
          all_goals (exfalso; simp at *; omega)
    · rw [byte_end hlt] at hI
      simp only [numF] at hI
      have hlt' : ¬ (k : Int) < (s.size : Int) := by omega
      rw [hI]
      have e : ((s.size : Int) ≤ 20) = (s.size ≤ 20) := by rw [eq_iff_iff]; omega
      have ff := (cj @hlt <| cj @hlt' <| cj @e <| Tryz.results80)
      repeat any_goals (first | refine stW ?_ | exact lfW ff | refine ruW ff ?_ | refine cdW ff ?_ | ((first | refine bdW ff ?_ ?_ | refine bxW ff ?_ ?_ | refine bnW ff ?_ ?_ | refine brW ff ?_ ?_) <;> intro h <;> try (exfalso; first | omega | contradiction)))
end Go.Proofs.YteacdpklcopedaaGreat
