/-
  Styles of slots (layer 25) on the abstract machine: Slot, both sides.
-/
import Derived.Test.YteacdpklcopedaaGreatQs
namespace Go.Proofs.YteacdpklcopedaaGreat
open Go.RowKit
set_option linter.unusedSimpArgs false
set_option linter.unusedVariables false
set_option maxRecDepth 100000

theorem slotN_in {k : Int} (h : slotN k ≠ 0) : 5 ≤ k ∧ k ≤ 12 := by
  unfold slotN at h
  by_cases q1 : k = 5 ∨ k = 6 ∨ k = 7 ∨ k = 8
  · omega
  rw [if_neg q1] at h
  by_cases q2 : k = 9
  · omega
  rw [if_neg q2] at h
  by_cases q3 : k = 10 ∨ k = 11
  · omega
  rw [if_neg q3] at h
  by_cases q4 : k = 12
  · omega
  rw [if_neg q4] at h
  exact absurd rfl h
set_option maxHeartbeats 1600000 in
theorem pslot_r (k : Nat) (i : Int) (s : Style) (hok : s.ok = true) (h5 : 5 ≤ k) (h12 : k ≤ 12) (rows : List (List C)) (hrow : rulesV[k]? = some (.c (.sl rows))) (n : Nat) (hn : rows.length = n) (N : Int) (hN : (if k = 12 then 256 else (n : Int)) = N) (hi : i < 0 ∨ N ≤ i) : AC Tryz.prog 15 [.c (.int .i64 (k : Int)), .c (.int .i64 i), styleV s] (.tup [styleV ⟨0, false⟩, .c (.int .i64 2)]) := by
  have hs := stvalid_a s
  have hr := prules_a
  rw [hok] at hs
  obtain ⟨RV, hRV⟩ : ∃ RV, rulesV = RV := ⟨_, rfl⟩
  have hl : RV.length = 13 := by rw [← hRV]; rfl
  rw [hRV] at hr hrow
  have k1 : ¬ (k : Int) < 5 := by omega
  have k2 : ¬ (12 : Int) < (k : Int) := by omega
  have k3 : (k : Int) < 13 := by omega
  have k4 : k < 13 := by omega
  have hrow' := gx hrow
  unfold styleV
  unfold styleV at hs
  refine en Tryz.func15 Tryz.ntmps15 ?_
  by_cases q : k = 12
  · have q' : ((k : Int) = 12) ↔ True := ⟨fun _ => trivial, fun _ => by omega⟩
    rw [if_pos q] at hN
    subst hN
    rcases hi with hi | hi
    · have ff := (cj @k1 <| cj @k2 <| cj @k3 <| cj @k4 <| cj @hrow <| cj @hrow' <| cj @q' <| cj @hn <| cj @hl <| cj @hi <| Tryz.results15)
      repeat any_goals (first | refine stW ?_ | exact lfW ff | refine ruW ff ?_ | refine caW ff (hs) ?_ | refine caW ff (hr) ?_ | refine cdW ff ?_ | ((first | refine bdW ff ?_ ?_ | refine bxW ff ?_ ?_ | refine bnW ff ?_ ?_ | refine brW ff ?_ ?_) <;> intro h <;> try (exfalso; first | omega | contradiction)))
    · have hi' : ¬ i < 0 := by omega
      have ff := (cj @k1 <| cj @k2 <| cj @k3 <| cj @k4 <| cj @hrow <| cj @hrow' <| cj @q' <| cj @hn <| cj @hl <| cj @hi <| cj @hi' <| Tryz.results15)
      repeat any_goals (first | refine stW ?_ | exact lfW ff | refine ruW ff ?_ | refine caW ff (hs) ?_ | refine caW ff (hr) ?_ | refine cdW ff ?_ | ((first | refine bdW ff ?_ ?_ | refine bxW ff ?_ ?_ | refine bnW ff ?_ ?_ | refine brW ff ?_ ?_) <;> intro h <;> try (exfalso; first | omega | contradiction)))
  · have q' : ¬ (k : Int) = 12 := by omega
    rw [if_neg q] at hN
    subst hN
    rcases hi with hi | hi
    · have ff := (cj @k1 <| cj @k2 <| cj @k3 <| cj @k4 <| cj @hrow <| cj @hrow' <| cj @q' <| cj @hn <| cj @hl <| cj @hi <| Tryz.results15)
      repeat any_goals (first | refine stW ?_ | exact lfW ff | refine ruW ff ?_ | refine caW ff (hs) ?_ | refine caW ff (hr) ?_ | refine cdW ff ?_ | ((first | refine bdW ff ?_ ?_ | refine bxW ff ?_ ?_ | refine bnW ff ?_ ?_ | refine brW ff ?_ ?_) <;> intro h <;> try (exfalso; first | omega | contradiction)))
    · have hi' : ¬ i < 0 := by omega
      have ff := (cj @k1 <| cj @k2 <| cj @k3 <| cj @k4 <| cj @hrow <| cj @hrow' <| cj @q' <| cj @hn <| cj @hl <| cj @hi <| cj @hi' <| Tryz.results15)
      repeat any_goals (first | refine stW ?_ | exact lfW ff | refine ruW ff ?_ | refine caW ff (hs) ?_ | refine caW ff (hr) ?_ | refine cdW ff ?_ | ((first | refine bdW ff ?_ ?_ | refine bxW ff ?_ ?_ | refine bnW ff ?_ ?_ | refine brW ff ?_ ?_) <;> intro h <;> try (exfalso; first | omega | contradiction)))
set_option maxHeartbeats 1600000 in
theorem pslot_at (k : Nat) (i : Int) (s : Style) (hok : s.ok = true) (h5 : 5 ≤ k) (h12 : k ≤ 12) (rows : List (List C)) (hrow : rulesV[k]? = some (.c (.sl rows))) (n : Nat) (hn : rows.length = n) (N : Int) (hN : (if k = 12 then 256 else (n : Int)) = N) (h0 : 0 ≤ i) (hi : i < N) (j : Nat) (hj : (if (n : Int) - 1 < i then (n : Int) - 1 else i) = (j : Int)) (hjn : j < n) (hnm : n ≤ 100) (g : FuncId) (b : Bool) (L : Int) (hg : rows[j]? = some [.fnc g, .bool b]) (hac : AC Tryz.prog g [.c (.int .i64 s.level)] (.c (.int .i64 L))) (hcok : callOk Tryz.prog g = true) : AC Tryz.prog 15 [.c (.int .i64 (k : Int)), .c (.int .i64 i), styleV s] (.tup [styleV ⟨L, s.cramped || b⟩, .c (.int .i64 0)]) := by
  have hs := stvalid_a s
  have hr := prules_a
  rw [hok] at hs
  obtain ⟨RV, hRV⟩ : ∃ RV, rulesV = RV := ⟨_, rfl⟩
  have hl : RV.length = 13 := by rw [← hRV]; rfl
  rw [hRV] at hr hrow
  have k1 : ¬ (k : Int) < 5 := by omega
  have k2 : ¬ (12 : Int) < (k : Int) := by omega
  have k3 : (k : Int) < 13 := by omega
  have k4 : k < 13 := by omega
  have hw : IntKind.i64.wrap ((n : Int) - 1) = (n : Int) - 1 := wrap_i64 (by omega) (by omega)
  have hi0 : ¬ i < 0 := by omega
  have hrow' := gx hrow
  have hg' := gx hg
  have hjr : j < rows.length := by omega
  obtain ⟨l, c⟩ := s
  unfold styleV
  unfold styleV at hs
  simp only at hac
  refine en Tryz.func15 Tryz.ntmps15 ?_
  by_cases q : k = 12
  · have q' : ((k : Int) = 12) ↔ True := ⟨fun _ => trivial, fun _ => by omega⟩
    rw [if_pos q] at hN
    subst hN
    have hi' : ¬ 256 ≤ i := by omega
    cases c with
    | true =>
      have ff := (cj @k1 <| cj @k2 <| cj @k3 <| cj @k4 <| cj @hrow <| cj @hrow' <| cj @q' <| cj @hn <| cj @hl <| cj @hi0 <| cj @hi' <| cj @hw <| cj @hj <| cj @hjn <| cj @hjr <| cj @hg <| cj @hg' <| cj @hcok <| Tryz.results15)
      repeat any_goals (first | refine stW ?_ | exact lfW ff | refine ruW ff ?_ | refine caW ff (hs) ?_ | refine caW ff (hr) ?_ | refine caW ff (hac) ?_ | refine cdW ff ?_ | ((first | refine bdW ff ?_ ?_ | refine bxW ff ?_ ?_ | refine bnW ff ?_ ?_ | refine brW ff ?_ ?_) <;> intro h <;> try (exfalso; first | omega | contradiction)))
    | false =>
      have ff := (cj @k1 <| cj @k2 <| cj @k3 <| cj @k4 <| cj @hrow <| cj @hrow' <| cj @q' <| cj @hn <| cj @hl <| cj @hi0 <| cj @hi' <| cj @hw <| cj @hj <| cj @hjn <| cj @hjr <| cj @hg <| cj @hg' <| cj @hcok <| Tryz.results15)
      repeat any_goals (first | refine stW ?_ | exact lfW ff | refine ruW ff ?_ | refine caW ff (hs) ?_ | refine caW ff (hr) ?_ | refine caW ff (hac) ?_ | refine cdW ff ?_ | ((first | refine bdW ff ?_ ?_ | refine bxW ff ?_ ?_ | refine bnW ff ?_ ?_ | refine brW ff ?_ ?_) <;> intro h <;> try (exfalso; first | omega | contradiction)))
  · have q' : ¬ (k : Int) = 12 := by omega
    rw [if_neg q] at hN
    subst hN
    have hij : i = (j : Int) := by rw [if_neg (by omega)] at hj; exact hj
    subst hij
    have hi' : ¬ (n : Int) ≤ (j : Int) := by omega
    have hi2 : ¬ n ≤ j := by omega
    cases c with
    | true =>
      have ff := (cj @k1 <| cj @k2 <| cj @k3 <| cj @k4 <| cj @hrow <| cj @hrow' <| cj @q' <| cj @hn <| cj @hl <| cj @hi0 <| cj @hi' <| cj @hi2 <| cj @hw <| cj @hjn <| cj @hjr <| cj @hg <| cj @hg' <| cj @hcok <| Tryz.results15)
      repeat any_goals (first | refine stW ?_ | exact lfW ff | refine ruW ff ?_ | refine caW ff (hs) ?_ | refine caW ff (hr) ?_ | refine caW ff (hac) ?_ | refine cdW ff ?_ | ((first | refine bdW ff ?_ ?_ | refine bxW ff ?_ ?_ | refine bnW ff ?_ ?_ | refine brW ff ?_ ?_) <;> intro h <;> try (exfalso; first | omega | contradiction)))
    | false =>
      have ff := (cj @k1 <| cj @k2 <| cj @k3 <| cj @k4 <| cj @hrow <| cj @hrow' <| cj @q' <| cj @hn <| cj @hl <| cj @hi0 <| cj @hi' <| cj @hi2 <| cj @hw <| cj @hjn <| cj @hjr <| cj @hg <| cj @hg' <| cj @hcok <| Tryz.results15)
      repeat any_goals (first | refine stW ?_ | exact lfW ff | refine ruW ff ?_ | refine caW ff (hs) ?_ | refine caW ff (hr) ?_ | refine caW ff (hac) ?_ | refine cdW ff ?_ | ((first | refine bdW ff ?_ ?_ | refine bxW ff ?_ ?_ | refine bnW ff ?_ ?_ | refine brW ff ?_ ?_) <;> intro h <;> try (exfalso; first | omega | contradiction)))
/-- what the slots' rules say -/
theorem pslot_a (k i : Int) (s : Style) : AC Tryz.prog 15 [.c (.int .i64 k), .c (.int .i64 i), styleV s] (styEV (slotR k i s)) := by
  by_cases he : s.ok = false ∨ slotN k = 0
  · exact pslot_e k i s he
  have hok : s.ok = true := by cases h : s.ok with
    | true => rfl
    | false => exact absurd (.inl h) he
  have hk0 : slotN k ≠ 0 := fun h => he (.inr h)
  obtain ⟨h5, h12⟩ := slotN_in hk0
  have hlv : 0 ≤ s.level ∧ s.level ≤ 3 := by
    unfold Style.ok at hok
    simpa using hok
  obtain ⟨n, rfl⟩ : ∃ n : Nat, k = (n : Int) := ⟨k.toNat, by omega⟩
  have hn5 : 5 ≤ n := by omega
  have hn12 : n ≤ 12 := by omega
  unfold slotR
  rw [if_neg he]
  by_cases hr : i < 0 ∨ slotN (n : Int) ≤ i
  · rw [if_pos hr]
    have hc : n = 5 ∨ n = 6 ∨ n = 7 ∨ n = 8 ∨ n = 9 ∨ n = 10 ∨ n = 11 ∨ n = 12 := by omega
    rcases hc with rfl | rfl | rfl | rfl | rfl | rfl | rfl | rfl
    all_goals exact pslot_r _ i s hok (by omega) (by omega) _ rfl _ rfl _ rfl (by simpa [slotN] using hr)
  · rw [if_neg hr]
    have h0 : 0 ≤ i := by omega
    have hi : i < slotN (n : Int) := by omega
    have key : ∀ (j : Nat) (rows : List (List C)) (m : Nat) (g : FuncId) (b : Bool) (L : Int), rulesV[n]? = some (.c (.sl rows)) → rows.length = m → m ≤ 100 → (if n = 12 then 256 else (m : Int)) = slotN (n : Int) → (if (m : Int) - 1 < i then (m : Int) - 1 else i) = (j : Int) → j < m → rows[j]? = some [.fnc g, .bool b] → AC Tryz.prog g [.c (.int .i64 s.level)] (.c (.int .i64 L)) → callOk Tryz.prog g = true → slotS (n : Int) i s = ⟨L, s.cramped || b⟩ → AC Tryz.prog 15 [.c (.int .i64 (n : Int)), .c (.int .i64 i), styleV s] (styEV (slotS (n : Int) i s, 0)) := by
      intro j rows m g b L q1 q2 q3 q4 q5 q6 q7 q8 q9 q10
      rw [q10]
      exact pslot_at n i s hok hn5 hn12 rows q1 m q2 _ q4 h0 hi j q5 q6 q3 g b L q7 q8 q9
    have hc : n = 5 ∨ n = 6 ∨ n = 7 ∨ n = 8 ∨ n = 9 ∨ n = 10 ∨ n = 11 ∨ n = 12 := by omega
    have e01 : i = 0 ∨ i = 1 ∨ 2 ≤ i := by omega
    obtain ⟨lv, cr⟩ := s
    simp only at hlv
    rcases hc with rfl | rfl | rfl | rfl | rfl | rfl | rfl | rfl
    · rcases e01 with rfl | rfl | h2
      · exact key 0 _ 2 _ false _ rfl rfl (by omega) rfl rfl (by omega) rfl (pnext_a lv hlv.1 hlv.2) (by kernel_rfl) (by simp [slotS])
      · exact key 1 _ 2 _ true _ rfl rfl (by omega) rfl rfl (by omega) rfl (pnext_a lv hlv.1 hlv.2) (by kernel_rfl) (by simp [slotS])
      · simp [slotN] at hi; omega
    · rcases e01 with rfl | rfl | h2
      · exact key 0 _ 2 _ false _ rfl rfl (by omega) rfl rfl (by omega) rfl (pleast_a lv) (by kernel_rfl) (by simp [slotS])
      · exact key 1 _ 2 _ true _ rfl rfl (by omega) rfl rfl (by omega) rfl (psame25_a lv) (by kernel_rfl) (by simp [slotS])
      · simp [slotN] at hi; omega
    · rcases e01 with rfl | rfl | h2
      · exact key 0 _ 2 _ false _ rfl rfl (by omega) rfl rfl (by omega) rfl (psame25_a lv) (by kernel_rfl) (by simp [slotS])
      · exact key 1 _ 2 _ true _ rfl rfl (by omega) rfl rfl (by omega) rfl (pscript25_a lv hlv.1 hlv.2) (by kernel_rfl) (by simp [slotS])
      · simp [slotN] at hi; omega
    · rcases e01 with rfl | rfl | h2
      · exact key 0 _ 2 _ false _ rfl rfl (by omega) rfl rfl (by omega) rfl (psame25_a lv) (by kernel_rfl) (by simp [slotS])
      · exact key 1 _ 2 _ false _ rfl rfl (by omega) rfl rfl (by omega) rfl (pscript25_a lv hlv.1 hlv.2) (by kernel_rfl) (by simp [slotS])
      · simp [slotN] at hi; omega
    · rcases e01 with rfl | rfl | h2
      · exact key 0 _ 3 _ false _ rfl rfl (by omega) rfl rfl (by omega) rfl (psame25_a lv) (by kernel_rfl) (by simp [slotS])
      · exact key 1 _ 3 _ true _ rfl rfl (by omega) rfl rfl (by omega) rfl (pscript25_a lv hlv.1 hlv.2) (by kernel_rfl) (by simp [slotS])
      · have e2 : i = 2 := by simp [slotN] at hi; omega
        subst e2
        exact key 2 _ 3 _ false _ rfl rfl (by omega) rfl rfl (by omega) rfl (pscript25_a lv hlv.1 hlv.2) (by kernel_rfl) (by simp [slotS])
    · have e0 : i = 0 := by simp [slotN] at hi; omega
      subst e0
      exact key 0 _ 1 _ true _ rfl rfl (by omega) rfl rfl (by omega) rfl (psame25_a lv) (by kernel_rfl) (by simp [slotS])
    · have e0 : i = 0 := by simp [slotN] at hi; omega
      subst e0
      exact key 0 _ 1 _ false _ rfl rfl (by omega) rfl rfl (by omega) rfl (psame25_a lv) (by kernel_rfl) (by simp [slotS])
    · exact key 0 _ 1 _ false _ rfl rfl (by omega) rfl (by split <;> omega) (by omega) rfl (pcell_a lv) (by kernel_rfl) (by simp [slotS])
end Go.Proofs.YteacdpklcopedaaGreat
