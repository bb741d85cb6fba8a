/-
  Trees of nodes on the abstract machine: the program's checks.
-/
import Derived.Test.YtnpenchciinmmaaGreatPd
import Derived.Test.YtnpenchciinmmaaGreatPa
namespace Go.Proofs.YtnpenchciinmmaaGreat
open Go.RowKit
set_option linter.unusedSimpArgs false
set_option linter.unusedVariables false
set_option maxRecDepth 100000

set_option maxHeartbeats 6400000 in
theorem pndsym_a (s : ByteArray) (hs : s.size ≤ maxLen) : AC Tryz.prog 56 [.c (.str s)] (.c (.bool (symB s))) := by
  have h1 := pletters_a s hs
  have h2 := pkeyword_a s
  have h3 := paccent_a s
  unfold maxLen at hs
  unfold symB
  by_cases g : s.size = 1
  · rw [if_pos g]
    obtain ⟨b, hb, hb', hd, _, _⟩ := byte_at2 (s := s) (k := 0) (by omega)
    rw [List.drop_zero] at hd
    rw [byte_end2 (by omega)] at hd
    have e1 : allB letI_ s = letI_ b.toNat := by unfold allB; rw [hd]; simp
    have e2 : allB charI s = (letI_ b.toNat || hasB signsD b.toNat) := by unfold allB; rw [hd]; simp [charI]
    have h4 := sContains_a signsD s b g hb
    unfold signsD at *
    rw [e2]
    rw [e1] at h1
    have g' : (s.size : Int) = 1 := by omega
    cases eq1 : letI_ b.toNat with
    | true =>
      rw [eq1] at h1
      refine en Tryz.func56 Tryz.ntmps56 ?_
      have ff := (cj @g' <| Tryz.results56)
      repeat any_goals (first | refine stW ?_ | exact lfW ff | refine ruW ff ?_ | refine caW ff (h1) ?_ | refine cdW ff ?_ | ((first | refine bdW ff ?_ ?_ | refine bxW ff ?_ ?_ | refine bnW ff ?_ ?_ | refine brW ff ?_ ?_) <;> intro h <;> try (exfalso; first | omega | contradiction)))
    | false =>
      rw [eq1] at h1
      refine en Tryz.func56 Tryz.ntmps56 ?_
      have ff := (cj @g' <| Tryz.results56)
      repeat any_goals (first | refine stW ?_ | exact lfW ff | refine ruW ff ?_ | refine caW ff (h1) ?_ | refine caW ff (h4) ?_ | refine cdW ff ?_ | ((first | refine bdW ff ?_ ?_ | refine bxW ff ?_ ?_ | refine bnW ff ?_ ?_ | refine brW ff ?_ ?_) <;> intro h <;> try (exfalso; first | omega | contradiction)))
  · rw [if_neg g]
    have g' : ¬ (s.size : Int) = 1 := by omega
    have e1 : ((s.size : Int) ≤ 16) = (s.size ≤ 16) := by rw [eq_iff_iff]; omega
    have e2 : ((2 : Int) ≤ (s.size : Int)) = (2 ≤ s.size) := by rw [eq_iff_iff]; omega
    obtain ⟨A, hA⟩ : ∃ A, allB letI_ s = A := ⟨_, rfl⟩
    obtain ⟨B, hB⟩ : ∃ A, inT keywL s = A := ⟨_, rfl⟩
    obtain ⟨D, hD⟩ : ∃ A, inT accL s = A := ⟨_, rfl⟩
    rw [hA] at h1 ⊢
    rw [hB] at h2 ⊢
    rw [hD] at h3 ⊢
    clear hA hB hD
    by_cases g1 : 2 ≤ s.size
    · by_cases g2 : s.size ≤ 16
      · rw [decide_eq_true g1, decide_eq_true g2]
        cases A <;> cases B <;> cases D
        all_goals
          refine en Tryz.func56 Tryz.ntmps56 ?_
          have ff := (cj @g' <| cj @e1 <| cj @e2 <| cj @g1 <| cj @g2 <| Tryz.results56)
          repeat any_goals (first | refine stW ?_ | exact lfW ff | refine ruW ff ?_ | refine caW ff (h1) ?_ | refine caW ff (h2) ?_ | refine caW ff (h3) ?_ | refine cdW ff ?_ | ((first | refine bdW ff ?_ ?_ | refine bxW ff ?_ ?_ | refine bnW ff ?_ ?_ | refine brW ff ?_ ?_) <;> intro h <;> try (exfalso; first | omega | contradiction)))
      · rw [decide_eq_true g1, decide_eq_false g2, Bool.false_and, Bool.and_false, Bool.and_false]
        refine en Tryz.func56 Tryz.ntmps56 ?_
        have ff := (cj @g' <| cj @e1 <| cj @e2 <| cj @g1 <| cj @g2 <| Tryz.results56)
        repeat any_goals (first | refine stW ?_ | exact lfW ff | refine ruW ff ?_ | refine cdW ff ?_ | ((first | refine bdW ff ?_ ?_ | refine bxW ff ?_ ?_ | refine bnW ff ?_ ?_ | refine brW ff ?_ ?_) <;> intro h <;> try (exfalso; first | omega | contradiction)))
    · rw [decide_eq_false g1, Bool.false_and, Bool.and_false]
      refine en Tryz.func56 Tryz.ntmps56 ?_
      have ff := (cj @g' <| cj @e1 <| cj @e2 <| cj @g1 <| Tryz.results56)
      repeat any_goals (first | refine stW ?_ | exact lfW ff | refine ruW ff ?_ | refine cdW ff ?_ | ((first | refine bdW ff ?_ ?_ | refine bxW ff ?_ ?_ | refine bnW ff ?_ ?_ | refine brW ff ?_ ?_) <;> intro h <;> try (exfalso; first | omega | contradiction)))
theorem ex_sz (s : ByteArray) (a e : Nat) (h : s.size ≤ maxLen) : (s.extract a e).size ≤ maxLen := by
  rw [ByteArray.size_extract]
  omega
set_option maxHeartbeats 3200000 in
theorem pndnum_a (s : ByteArray) (hs : s.size ≤ maxLen) : AC Tryz.prog 57 [.c (.str s)] (.c (.bool (numR s))) := by
  have h1 := sCut_a s ⟨#[46]⟩ 46 hs rfl rfl
  have hd0 := pdigits_a s hs
  rw [← numP_eq]
  unfold numP
  unfold cutV at h1
  have e1 : ((s.size : Int) ≤ 20) = (s.size ≤ 20) := by rw [eq_iff_iff]; omega
  by_cases g : s.size ≤ 20
  · rw [decide_eq_true g, Bool.true_and]
    by_cases c : 0 ≤ Lib.indexByte s.data.toList 46
    · rw [if_pos c] at h1 ⊢
      have hd1 := pdigits_a (s.extract 0 (Lib.indexByte s.data.toList 46).toNat) (ex_sz _ _ _ hs)
      have hd2 := pdigits_a (s.extract ((Lib.indexByte s.data.toList 46).toNat + 1) s.size) (ex_sz _ _ _ hs)
      obtain ⟨X, hX⟩ : ∃ X, s.extract 0 (Lib.indexByte s.data.toList 46).toNat = X := ⟨_, rfl⟩
      obtain ⟨Y, hY⟩ : ∃ X, s.extract ((Lib.indexByte s.data.toList 46).toNat + 1) s.size = X := ⟨_, rfl⟩
      rw [hX] at h1 hd1 ⊢
      rw [hY] at h1 hd2 ⊢
      cases D : digitsB X with
      | true =>
        rw [D] at hd1
        refine en Tryz.func57 Tryz.ntmps57 ?_
        have ff := (cj @e1 <| cj @g <| Tryz.results57)
        repeat any_goals (first | refine stW ?_ | exact lfW ff | refine ruW ff ?_ | refine caW ff (h1) ?_ | refine caW ff (hd1) ?_ | refine caW ff (hd2) ?_ | refine cdW ff ?_ | ((first | refine bdW ff ?_ ?_ | refine bxW ff ?_ ?_ | refine bnW ff ?_ ?_ | refine brW ff ?_ ?_) <;> intro h <;> try (exfalso; first | omega | contradiction)))
      | false =>
        rw [D] at hd1
        refine en Tryz.func57 Tryz.ntmps57 ?_
        have ff := (cj @e1 <| cj @g <| Tryz.results57)
        repeat any_goals (first | refine stW ?_ | exact lfW ff | refine ruW ff ?_ | refine caW ff (h1) ?_ | refine caW ff (hd1) ?_ | refine cdW ff ?_ | ((first | refine bdW ff ?_ ?_ | refine bxW ff ?_ ?_ | refine bnW ff ?_ ?_ | refine brW ff ?_ ?_) <;> intro h <;> try (exfalso; first | omega | contradiction)))
    · rw [if_neg c] at h1 ⊢
      cases D : digitsB s with
      | true =>
        rw [D] at hd0
        refine en Tryz.func57 Tryz.ntmps57 ?_
        have ff := (cj @e1 <| cj @g <| Tryz.results57)
        repeat any_goals (first | refine stW ?_ | exact lfW ff | refine ruW ff ?_ | refine caW ff (h1) ?_ | refine caW ff (hd0) ?_ | refine cdW ff ?_ | ((first | refine bdW ff ?_ ?_ | refine bxW ff ?_ ?_ | refine bnW ff ?_ ?_ | refine brW ff ?_ ?_) <;> intro h <;> try (exfalso; first | omega | contradiction)))
      | false =>
        rw [D] at hd0
        refine en Tryz.func57 Tryz.ntmps57 ?_
        have ff := (cj @e1 <| cj @g <| Tryz.results57)
        repeat any_goals (first | refine stW ?_ | exact lfW ff | refine ruW ff ?_ | refine caW ff (h1) ?_ | refine caW ff (hd0) ?_ | refine cdW ff ?_ | ((first | refine bdW ff ?_ ?_ | refine bxW ff ?_ ?_ | refine bnW ff ?_ ?_ | refine brW ff ?_ ?_) <;> intro h <;> try (exfalso; first | omega | contradiction)))
  · rw [decide_eq_false g, Bool.false_and]
    by_cases c : 0 ≤ Lib.indexByte s.data.toList 46
    · rw [if_pos c] at h1
      refine en Tryz.func57 Tryz.ntmps57 ?_
      have ff := (cj @e1 <| cj @g <| Tryz.results57)
      repeat any_goals (first | refine stW ?_ | exact lfW ff | refine ruW ff ?_ | refine caW ff (h1) ?_ | refine cdW ff ?_ | ((first | refine bdW ff ?_ ?_ | refine bxW ff ?_ ?_ | refine bnW ff ?_ ?_ | refine brW ff ?_ ?_) <;> intro h <;> try (exfalso; first | omega | contradiction)))
    · rw [if_neg c] at h1
      refine en Tryz.func57 Tryz.ntmps57 ?_
      have ff := (cj @e1 <| cj @g <| Tryz.results57)
      repeat any_goals (first | refine stW ?_ | exact lfW ff | refine ruW ff ?_ | refine caW ff (h1) ?_ | refine cdW ff ?_ | ((first | refine bdW ff ?_ ?_ | refine bxW ff ?_ ?_ | refine bnW ff ?_ ?_ | refine brW ff ?_ ?_) <;> intro h <;> try (exfalso; first | omega | contradiction)))
theorem delim_eq (c : Int) : hasB delimR c = hasB delimP c := by
  rw [Bool.eq_iff_iff]
  simp [hasB, delimR, delimP]
  omega
theorem pidx_a (s : ByteArray) (b : UInt8) : AC Tryz.prog 94 [.c (.str s), .c (.int .u8 b.toNat)] (.c (.int .i64 (Lib.indexByte s.data.toList b))) := by
  have h := sIndexByte_a s b.toNat
  rwa [show ((b.toNat : Int)).toNat.toUInt8 = b by simp] at h
theorem pndfence_a (s : ByteArray) : AC Tryz.prog 60 [.c (.str s)] (.c (.bool (decide (s.size = 2) && allB (hasB delimR) s))) := by
  by_cases g : s.size = 2
  · obtain ⟨c0, c1, c2, c3, c4, _⟩ := byte_at2 (s := s) (k := 0) (by omega)
    obtain ⟨d0, d1, d2, d3, d4, _⟩ := byte_at2 (s := s) (k := 1) (by omega)
    have i1 : ∀ b : UInt8, hasB delimR b.toNat = decide (0 ≤ Lib.indexByte delimP.data.toList b) := fun b => by rw [delim_eq]; exact (idx_any _ _).symm
    have hR : allB (hasB delimR) s = (decide (0 ≤ Lib.indexByte delimP.data.toList c0) && decide (0 ≤ Lib.indexByte delimP.data.toList d0)) := by
      unfold allB
      rw [List.drop_zero] at c3
      rw [c3, d3, byte_end2 (by omega), List.all_cons, List.all_cons, List.all_nil, Bool.and_true, i1, i1]
    have q1 := pidx_a delimP c0
    have q2 := pidx_a delimP d0
    rw [decide_eq_true g, Bool.true_and, hR]
    have g' : (s.size : Int) = 2 := by omega
    obtain ⟨X, hX⟩ : ∃ X, Lib.indexByte delimP.data.toList c0 = X := ⟨_, rfl⟩
    obtain ⟨Y, hY⟩ : ∃ X, Lib.indexByte delimP.data.toList d0 = X := ⟨_, rfl⟩
    rw [hX] at q1 ⊢
    rw [hY] at q2 ⊢
    unfold delimP at *
    clear i1 hR hX hY
    by_cases h0 : 0 ≤ X
    · rw [decide_eq_true h0, Bool.true_and]
      refine en Tryz.func60 Tryz.ntmps60 ?_
      have ff := (cj @g' <| cj @c1 <| cj @c2 <| cj @d1 <| cj @d2 <| cj @h0 <| Tryz.results60)
      repeat any_goals (first | refine stW ?_ | exact lfW ff | refine ruW ff ?_ | refine caW ff (q1) ?_ | refine caW ff (q2) ?_ | refine cdW ff ?_ | ((first | refine bdW ff ?_ ?_ | refine bxW ff ?_ ?_ | refine bnW ff ?_ ?_ | refine brW ff ?_ ?_) <;> intro h <;> try (exfalso; first | omega | contradiction)))
    · rw [decide_eq_false h0, Bool.false_and]
      refine en Tryz.func60 Tryz.ntmps60 ?_
      have ff := (cj @g' <| cj @c1 <| cj @c2 <| cj @d1 <| cj @d2 <| cj @h0 <| Tryz.results60)
      repeat any_goals (first | refine stW ?_ | exact lfW ff | refine ruW ff ?_ | refine caW ff (q1) ?_ | refine cdW ff ?_ | ((first | refine bdW ff ?_ ?_ | refine bxW ff ?_ ?_ | refine bnW ff ?_ ?_ | refine brW ff ?_ ?_) <;> intro h <;> try (exfalso; first | omega | contradiction)))
  · rw [decide_eq_false g, Bool.false_and]
    have g' : ¬ (s.size : Int) = 2 := by omega
    refine en Tryz.func60 Tryz.ntmps60 ?_
    have ff := (cj @g' <| Tryz.results60)
    repeat any_goals (first | refine stW ?_ | exact lfW ff | refine ruW ff ?_ | refine cdW ff ?_ | ((first | refine bdW ff ?_ ?_ | refine bxW ff ?_ ?_ | refine bnW ff ?_ ?_ | refine brW ff ?_ ?_) <;> intro h <;> try (exfalso; first | omega | contradiction)))
/-! the table of kinds -/
def kindsV : List V := [.c (.str ⟨#[]⟩), .c (.int .i64 0), .c .nilf,
  .c (.str ⟨#[114, 111, 119]⟩), .c (.int .i64 0), .fn 55 [],
  .c (.str ⟨#[115, 121, 109]⟩), .c (.int .i64 0), .fn 56 [],
  .c (.str ⟨#[110, 117, 109]⟩), .c (.int .i64 0), .fn 57 [],
  .c (.str ⟨#[116, 101, 120, 116]⟩), .c (.int .i64 0), .fn 58 [],
  .c (.str ⟨#[102, 114, 97, 99]⟩), .c (.int .i64 2), .fn 55 [],
  .c (.str ⟨#[114, 111, 111, 116]⟩), .c (.int .i64 2), .fn 55 [],
  .c (.str ⟨#[115, 117, 98]⟩), .c (.int .i64 2), .fn 55 [],
  .c (.str ⟨#[115, 117, 112]⟩), .c (.int .i64 2), .fn 55 [],
  .c (.str ⟨#[98, 111, 116, 104]⟩), .c (.int .i64 3), .fn 55 [],
  .c (.str ⟨#[97, 99, 99, 101, 110, 116]⟩), .c (.int .i64 1), .fn 59 [],
  .c (.str ⟨#[102, 101, 110, 99, 101]⟩), .c (.int .i64 1), .fn 60 [],
  .c (.str ⟨#[109, 97, 116, 114, 105, 120]⟩), .c (.int .i64 0), .fn 55 []]
set_option maxHeartbeats 1600000 in
theorem pkinds_a : AC Tryz.prog 38 [] (.agg kindsV) := by
  unfold kindsV
  refine en Tryz.func38 Tryz.ntmps38 ?_
  have ff := (Tryz.results38)
  repeat any_goals (first | refine stW ?_ | exact lfW ff | refine ruW ff ?_ | refine cdW ff ?_ | ((first | refine bdW ff ?_ ?_ | refine bxW ff ?_ ?_ | refine bnW ff ?_ ?_ | refine brW ff ?_ ?_) <;> intro h <;> try (exfalso; first | omega | contradiction)))
end Go.Proofs.YtnpenchciinmmaaGreat
