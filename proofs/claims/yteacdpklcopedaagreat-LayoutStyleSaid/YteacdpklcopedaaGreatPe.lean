/-
  Trees of nodes on the abstract machine: the reference's checks, counts.
-/
import Derived.Test.YteacdpklcopedaaGreatPc
namespace Go.Proofs.YteacdpklcopedaaGreat
open Go.RowKit
set_option linter.unusedSimpArgs false
set_option linter.unusedVariables false
set_option maxRecDepth 100000

set_option maxHeartbeats 3200000 in
theorem rtext_a (b : Nd) (hb : b.okk) : AC Tryz.prog 50 [ndV b] (.c (.bool (textB b.kind b.text))) := by
  have hs := (nokk_at b hb).1
  have h1 := rsym_a b.text hs
  have h2 := rnum_a b.text hs
  have h3 := rprint_a b.text hs
  have h4 := rin_a accL b.text (by decide)
  have h5 := raccents_a
  unfold maxLen at hs
  unfold textB ndV
  obtain ⟨k, hk⟩ : ∃ k, b.kind = k := ⟨_, rfl⟩
  rw [hk]
  by_cases k2 : k = 2
  · rw [if_pos k2]
    refine en Tryz.func50 Tryz.ntmps50 ?_
    have ff := (cj @hk <| cj @k2 <| Tryz.results50)
    repeat any_goals (first | refine stW ?_ | exact lfW ff | refine ruW ff ?_ | refine caW ff (h1) ?_ | refine cdW ff ?_ | ((first | refine bdW ff ?_ ?_ | refine bxW ff ?_ ?_ | refine bnW ff ?_ ?_ | refine brW ff ?_ ?_) <;> intro h <;> try (exfalso; first | omega | contradiction)))
  by_cases k3 : k = 3
  · rw [if_neg k2, if_pos k3]
    refine en Tryz.func50 Tryz.ntmps50 ?_
    have ff := (cj @hk <| cj @k3 <| Tryz.results50)
    repeat any_goals (first | refine stW ?_ | exact lfW ff | refine ruW ff ?_ | refine caW ff (h2) ?_ | refine cdW ff ?_ | ((first | refine bdW ff ?_ ?_ | refine bxW ff ?_ ?_ | refine bnW ff ?_ ?_ | refine brW ff ?_ ?_) <;> intro h <;> try (exfalso; first | omega | contradiction)))
  by_cases k4 : k = 4
  · rw [if_neg k2, if_neg k3, if_pos k4]
    have e : ((b.text.size : Int) ≤ 200) = (b.text.size ≤ 200) := by rw [eq_iff_iff]; omega
    by_cases g : b.text.size ≤ 200
    · rw [decide_eq_true g, Bool.true_and]
      refine en Tryz.func50 Tryz.ntmps50 ?_
      have ff := (cj @hk <| cj @k4 <| cj @e <| cj @g <| Tryz.results50)
      repeat any_goals (first | refine stW ?_ | exact lfW ff | refine ruW ff ?_ | refine caW ff (h3) ?_ | refine cdW ff ?_ | ((first | refine bdW ff ?_ ?_ | refine bxW ff ?_ ?_ | refine bnW ff ?_ ?_ | refine brW ff ?_ ?_) <;> intro h <;> try (exfalso; first | omega | contradiction)))
    · rw [decide_eq_false g, Bool.false_and]
      refine en Tryz.func50 Tryz.ntmps50 ?_
      have ff := (cj @hk <| cj @k4 <| cj @e <| cj @g <| Tryz.results50)
      repeat any_goals (first | refine stW ?_ | exact lfW ff | refine ruW ff ?_ | refine cdW ff ?_ | ((first | refine bdW ff ?_ ?_ | refine bxW ff ?_ ?_ | refine bnW ff ?_ ?_ | refine brW ff ?_ ?_) <;> intro h <;> try (exfalso; first | omega | contradiction)))
  by_cases k10 : k = 10
  · rw [if_neg k2, if_neg k3, if_neg k4, if_pos k10]
    refine en Tryz.func50 Tryz.ntmps50 ?_
    have ff := (cj @hk <| cj @k10 <| Tryz.results50)
    repeat any_goals (first | refine stW ?_ | exact lfW ff | refine ruW ff ?_ | refine caW ff (h5) ?_ | refine caW ff (h4) ?_ | refine cdW ff ?_ | ((first | refine bdW ff ?_ ?_ | refine bxW ff ?_ ?_ | refine bnW ff ?_ ?_ | refine brW ff ?_ ?_) <;> intro h <;> try (exfalso; first | omega | contradiction)))
  by_cases k11 : k = 11
  · rw [if_neg k2, if_neg k3, if_neg k4, if_neg k10, if_pos k11]
    by_cases g : b.text.size = 2
    · obtain ⟨c0, c1, c2, c3, c4, _⟩ := byte_at (s := b.text) (k := 0) (by omega)
      obtain ⟨d0, d1, d2, d3, d4, _⟩ := byte_at (s := b.text) (k := 1) (by omega)
      have hR : allB (hasB delimR) b.text = (hasB delimR c0.toNat && hasB delimR d0.toNat) := by
        unfold allB
        rw [List.drop_zero] at c3
        rw [c3, d3, byte_end (by omega), List.all_cons, List.all_cons, List.all_nil, Bool.and_true]
      rw [decide_eq_true g, Bool.true_and, hR]
      have g' : (b.text.size : Int) = 2 := by omega
      have q1 := rhas_a delimR c0.toNat (by unfold maxLen; decide)
      have q2 := rhas_a delimR d0.toNat (by unfold maxLen; decide)
      unfold delimR at *
      obtain ⟨X, hX⟩ : ∃ X, hasB ⟨#[40, 41, 91, 93, 123, 125, 124, 60, 62, 47, 46]⟩ c0.toNat = X := ⟨_, rfl⟩
      rw [hX] at q1 ⊢
      cases X with
      | true =>
        refine en Tryz.func50 Tryz.ntmps50 ?_
        have ff := (cj @hk <| cj @k11 <| cj @g' <| cj @c1 <| cj @c2 <| cj @d1 <| cj @d2 <| Tryz.results50)
        repeat any_goals (first | refine stW ?_ | exact lfW ff | refine ruW ff ?_ | refine caW ff (q1) ?_ | refine caW ff (q2) ?_ | refine cdW ff ?_ | ((first | refine bdW ff ?_ ?_ | refine bxW ff ?_ ?_ | refine bnW ff ?_ ?_ | refine brW ff ?_ ?_) <;> intro h <;> try (exfalso; first | omega | contradiction)))
      | false =>
        refine en Tryz.func50 Tryz.ntmps50 ?_
        have ff := (cj @hk <| cj @k11 <| cj @g' <| cj @c1 <| cj @c2 <| cj @d1 <| cj @d2 <| Tryz.results50)
        repeat any_goals (first | refine stW ?_ | exact lfW ff | refine ruW ff ?_ | refine caW ff (q1) ?_ | refine cdW ff ?_ | ((first | refine bdW ff ?_ ?_ | refine bxW ff ?_ ?_ | refine bnW ff ?_ ?_ | refine brW ff ?_ ?_) <;> intro h <;> try (exfalso; first | omega | contradiction)))
    · rw [decide_eq_false g, Bool.false_and]
      have g' : ¬ (b.text.size : Int) = 2 := by omega
      refine en Tryz.func50 Tryz.ntmps50 ?_
      have ff := (cj @hk <| cj @k11 <| cj @g' <| Tryz.results50)
      repeat any_goals (first | refine stW ?_ | exact lfW ff | refine ruW ff ?_ | refine cdW ff ?_ | ((first | refine bdW ff ?_ ?_ | refine bxW ff ?_ ?_ | refine bnW ff ?_ ?_ | refine brW ff ?_ ?_) <;> intro h <;> try (exfalso; first | omega | contradiction)))
  rw [if_neg k2, if_neg k3, if_neg k4, if_neg k10, if_neg k11]
  refine en Tryz.func50 Tryz.ntmps50 ?_
  have ff := (cj @hk <| cj @k2 <| cj @k3 <| cj @k4 <| cj @k10 <| cj @k11 <| Tryz.results50)
  repeat any_goals (first | refine stW ?_ | exact lfW ff | refine ruW ff ?_ | refine cdW ff ?_ | ((first | refine bdW ff ?_ ?_ | refine bxW ff ?_ ?_ | refine bnW ff ?_ ?_ | refine brW ff ?_ ?_) <;> intro h <;> try (exfalso; first | omega | contradiction)))
set_option maxHeartbeats 1600000 in
theorem rkids_a (b : Nd) (hb : b.okk) : AC Tryz.prog 51 [ndV b] (.c (.bool (kidsB b.kind b.cols b.kids.length))) := by
  have hs := (nokk_at b hb).2.1
  have hl := nrows_len b.kids
  unfold maxLen at hs
  unfold kidsB ndV
  obtain ⟨k, hk⟩ : ∃ k, b.kind = k := ⟨_, rfl⟩
  obtain ⟨c, hc⟩ : ∃ c, b.cols = c := ⟨_, rfl⟩
  obtain ⟨n, hn⟩ : ∃ n, b.kids.length = n := ⟨_, rfl⟩
  rw [hn] at hl hs
  rw [hk, hc, hn]
  have e0 : ∀ m : Nat, ((n : Int) = (m : Int)) = (n = m) := fun m => by rw [eq_iff_iff]; omega
  have e1 : ((n : Int) = 1) = (n = 1) := e0 1
  have e2 : ((n : Int) = 2) = (n = 2) := e0 2
  have e3 : ((n : Int) = 3) = (n = 3) := e0 3
  have e4 : ((n : Int) ≤ 200) = (n ≤ 200) := by rw [eq_iff_iff]; omega
  have e5 : ((n : Int) ≤ 256) = (n ≤ 256) := by rw [eq_iff_iff]; omega
  have e6 : ((1 : Int) ≤ (n : Int)) = (1 ≤ n) := by rw [eq_iff_iff]; omega
  by_cases k12 : k = 12
  · rw [if_pos k12]
    by_cases g1 : 1 ≤ c
    · by_cases g2 : c ≤ 16
      · rw [decide_eq_true g1, decide_eq_true g2, Bool.true_and, Bool.true_and]
        by_cases g3 : 1 ≤ n
        · by_cases g4 : n ≤ 256
          · rw [decide_eq_true g3, decide_eq_true g4, Bool.true_and, Bool.true_and]
            have c0 : ¬ c = 0 := by omega
            have w0 : IntKind.i64.wrap ((n : Int).tmod c) = (n : Int).tmod c := by
              have h1 := Int.tmod_nonneg c (show (0 : Int) ≤ (n : Int) by omega)
              have h2 := Int.tmod_lt_of_pos (n : Int) (show (0 : Int) < c by omega)
              exact wrap_i64 (by omega) (by omega)
            refine en Tryz.func51 Tryz.ntmps51 ?_
            have ff := (cj @hk <| cj @hc <| cj @hl <| cj @k12 <| cj @g1 <| cj @g2 <| cj @e5 <| cj @e6 <| cj @g3 <| cj @g4 <| cj @c0 <| cj @w0 <| Tryz.results51)
            repeat any_goals (first | refine stW ?_ | exact lfW ff | refine ruW ff ?_ | refine cdW ff ?_ | ((first | refine bdW ff ?_ ?_ | refine bxW ff ?_ ?_ | refine bnW ff ?_ ?_ | refine brW ff ?_ ?_) <;> intro h <;> try (exfalso; first | omega | contradiction)))
          · rw [decide_eq_true g3, decide_eq_false g4, Bool.true_and, Bool.false_and]
            refine en Tryz.func51 Tryz.ntmps51 ?_
            have ff := (cj @hk <| cj @hc <| cj @hl <| cj @k12 <| cj @g1 <| cj @g2 <| cj @e5 <| cj @e6 <| cj @g3 <| cj @g4 <| Tryz.results51)
            repeat any_goals (first | refine stW ?_ | exact lfW ff | refine ruW ff ?_ | refine cdW ff ?_ | ((first | refine bdW ff ?_ ?_ | refine bxW ff ?_ ?_ | refine bnW ff ?_ ?_ | refine brW ff ?_ ?_) <;> intro h <;> try (exfalso; first | omega | contradiction)))
        · rw [decide_eq_false g3, Bool.false_and]
          refine en Tryz.func51 Tryz.ntmps51 ?_
          have ff := (cj @hk <| cj @hc <| cj @hl <| cj @k12 <| cj @g1 <| cj @g2 <| cj @e5 <| cj @e6 <| cj @g3 <| Tryz.results51)
          repeat any_goals (first | refine stW ?_ | exact lfW ff | refine ruW ff ?_ | refine cdW ff ?_ | ((first | refine bdW ff ?_ ?_ | refine bxW ff ?_ ?_ | refine bnW ff ?_ ?_ | refine brW ff ?_ ?_) <;> intro h <;> try (exfalso; first | omega | contradiction)))
      · rw [decide_eq_true g1, decide_eq_false g2, Bool.true_and, Bool.false_and]
        refine en Tryz.func51 Tryz.ntmps51 ?_
        have ff := (cj @hk <| cj @hc <| cj @hl <| cj @k12 <| cj @g1 <| cj @g2 <| Tryz.results51)
        repeat any_goals (first | refine stW ?_ | exact lfW ff | refine ruW ff ?_ | refine cdW ff ?_ | ((first | refine bdW ff ?_ ?_ | refine bxW ff ?_ ?_ | refine bnW ff ?_ ?_ | refine brW ff ?_ ?_) <;> intro h <;> try (exfalso; first | omega | contradiction)))
    · rw [decide_eq_false g1, Bool.false_and]
      refine en Tryz.func51 Tryz.ntmps51 ?_
      have ff := (cj @hk <| cj @hc <| cj @hl <| cj @k12 <| cj @g1 <| Tryz.results51)
      repeat any_goals (first | refine stW ?_ | exact lfW ff | refine ruW ff ?_ | refine cdW ff ?_ | ((first | refine bdW ff ?_ ?_ | refine bxW ff ?_ ?_ | refine bnW ff ?_ ?_ | refine brW ff ?_ ?_) <;> intro h <;> try (exfalso; first | omega | contradiction)))
  rw [if_neg k12]
  by_cases c0 : c = 0
  · rw [if_neg (by omega)]
    by_cases k1 : k = 1
    · rw [if_pos k1]
      refine en Tryz.func51 Tryz.ntmps51 ?_
      have ff := (cj @hk <| cj @hc <| cj @hl <| cj @k1 <| cj @c0 <| cj @e4 <| Tryz.results51)
      repeat any_goals (first | refine stW ?_ | exact lfW ff | refine ruW ff ?_ | refine cdW ff ?_ | ((first | refine bdW ff ?_ ?_ | refine bxW ff ?_ ?_ | refine bnW ff ?_ ?_ | refine brW ff ?_ ?_) <;> intro h <;> try (exfalso; first | omega | contradiction)))
    rw [if_neg k1]
    by_cases k2 : k = 2 ∨ k = 3 ∨ k = 4
    · rw [if_pos k2]
      refine en Tryz.func51 Tryz.ntmps51 ?_
      rcases k2 with k2 | k2 | k2
      · have ff := (cj @hk <| cj @hc <| cj @hl <| cj @k2 <| cj @c0 <| Tryz.results51)
        repeat any_goals (first | refine stW ?_ | exact lfW ff | refine ruW ff ?_ | refine cdW ff ?_ | ((first | refine bdW ff ?_ ?_ | refine bxW ff ?_ ?_ | refine bnW ff ?_ ?_ | refine brW ff ?_ ?_) <;> intro h <;> try (exfalso; first | omega | contradiction)))
      · have ff := (cj @hk <| cj @hc <| cj @hl <| cj @k2 <| cj @c0 <| Tryz.results51)
        repeat any_goals (first | refine stW ?_ | exact lfW ff | refine ruW ff ?_ | refine cdW ff ?_ | ((first | refine bdW ff ?_ ?_ | refine bxW ff ?_ ?_ | refine bnW ff ?_ ?_ | refine brW ff ?_ ?_) <;> intro h <;> try (exfalso; first | omega | contradiction)))
      · have ff := (cj @hk <| cj @hc <| cj @hl <| cj @k2 <| cj @c0 <| Tryz.results51)
        repeat any_goals (first | refine stW ?_ | exact lfW ff | refine ruW ff ?_ | refine cdW ff ?_ | ((first | refine bdW ff ?_ ?_ | refine bxW ff ?_ ?_ | refine bnW ff ?_ ?_ | refine brW ff ?_ ?_) <;> intro h <;> try (exfalso; first | omega | contradiction)))
    rw [if_neg k2]
    by_cases k5 : k = 5 ∨ k = 6 ∨ k = 7 ∨ k = 8
    · rw [if_pos k5]
      refine en Tryz.func51 Tryz.ntmps51 ?_
      rcases k5 with k5 | k5 | k5 | k5
      · have ff := (cj @hk <| cj @hc <| cj @hl <| cj @k5 <| cj @c0 <| cj @e2 <| Tryz.results51)
        repeat any_goals (first | refine stW ?_ | exact lfW ff | refine ruW ff ?_ | refine cdW ff ?_ | ((first | refine bdW ff ?_ ?_ | refine bxW ff ?_ ?_ | refine bnW ff ?_ ?_ | refine brW ff ?_ ?_) <;> intro h <;> try (exfalso; first | omega | contradiction)))
      · have ff := (cj @hk <| cj @hc <| cj @hl <| cj @k5 <| cj @c0 <| cj @e2 <| Tryz.results51)
        repeat any_goals (first | refine stW ?_ | exact lfW ff | refine ruW ff ?_ | refine cdW ff ?_ | ((first | refine bdW ff ?_ ?_ | refine bxW ff ?_ ?_ | refine bnW ff ?_ ?_ | refine brW ff ?_ ?_) <;> intro h <;> try (exfalso; first | omega | contradiction)))
      · have ff := (cj @hk <| cj @hc <| cj @hl <| cj @k5 <| cj @c0 <| cj @e2 <| Tryz.results51)
        repeat any_goals (first | refine stW ?_ | exact lfW ff | refine ruW ff ?_ | refine cdW ff ?_ | ((first | refine bdW ff ?_ ?_ | refine bxW ff ?_ ?_ | refine bnW ff ?_ ?_ | refine brW ff ?_ ?_) <;> intro h <;> try (exfalso; first | omega | contradiction)))
      · have ff := (cj @hk <| cj @hc <| cj @hl <| cj @k5 <| cj @c0 <| cj @e2 <| Tryz.results51)
        repeat any_goals (first | refine stW ?_ | exact lfW ff | refine ruW ff ?_ | refine cdW ff ?_ | ((first | refine bdW ff ?_ ?_ | refine bxW ff ?_ ?_ | refine bnW ff ?_ ?_ | refine brW ff ?_ ?_) <;> intro h <;> try (exfalso; first | omega | contradiction)))
    rw [if_neg k5]
    by_cases k9 : k = 9
    · rw [if_pos k9]
      refine en Tryz.func51 Tryz.ntmps51 ?_
      have ff := (cj @hk <| cj @hc <| cj @hl <| cj @k9 <| cj @c0 <| cj @e3 <| Tryz.results51)
      repeat any_goals (first | refine stW ?_ | exact lfW ff | refine ruW ff ?_ | refine cdW ff ?_ | ((first | refine bdW ff ?_ ?_ | refine bxW ff ?_ ?_ | refine bnW ff ?_ ?_ | refine brW ff ?_ ?_) <;> intro h <;> try (exfalso; first | omega | contradiction)))
    rw [if_neg k9]
    by_cases k10 : k = 10 ∨ k = 11
    · rw [if_pos k10]
      refine en Tryz.func51 Tryz.ntmps51 ?_
      rcases k10 with k10 | k10
      · have ff := (cj @hk <| cj @hc <| cj @hl <| cj @k10 <| cj @c0 <| cj @e1 <| Tryz.results51)
        repeat any_goals (first | refine stW ?_ | exact lfW ff | refine ruW ff ?_ | refine cdW ff ?_ | ((first | refine bdW ff ?_ ?_ | refine bxW ff ?_ ?_ | refine bnW ff ?_ ?_ | refine brW ff ?_ ?_) <;> intro h <;> try (exfalso; first | omega | contradiction)))
      · have ff := (cj @hk <| cj @hc <| cj @hl <| cj @k10 <| cj @c0 <| cj @e1 <| Tryz.results51)
        repeat any_goals (first | refine stW ?_ | exact lfW ff | refine ruW ff ?_ | refine cdW ff ?_ | ((first | refine bdW ff ?_ ?_ | refine bxW ff ?_ ?_ | refine bnW ff ?_ ?_ | refine brW ff ?_ ?_) <;> intro h <;> try (exfalso; first | omega | contradiction)))
    rw [if_neg k10]
    simp only [not_or] at k2 k5 k10
    obtain ⟨x1, x2, x3⟩ := k2
    obtain ⟨y1, y2, y3, y4⟩ := k5
    obtain ⟨z1, z2⟩ := k10
    refine en Tryz.func51 Tryz.ntmps51 ?_
    have ff := (cj @hk <| cj @hc <| cj @hl <| cj @k12 <| cj @c0 <| cj @k1 <| cj @x1 <| cj @x2 <| cj @x3 <| cj @y1 <| cj @y2 <| cj @y3 <| cj @y4 <| cj @k9 <| cj @z1 <| cj @z2 <| Tryz.results51)
    repeat any_goals (first | refine stW ?_ | exact lfW ff | refine ruW ff ?_ | refine cdW ff ?_ | ((first | refine bdW ff ?_ ?_ | refine bxW ff ?_ ?_ | refine bnW ff ?_ ?_ | refine brW ff ?_ ?_) <;> intro h <;> try (exfalso; first | omega | contradiction)))
  · rw [if_pos c0]
    refine en Tryz.func51 Tryz.ntmps51 ?_
    have ff := (cj @hk <| cj @hc <| cj @hl <| cj @k12 <| cj @c0 <| Tryz.results51)
    repeat any_goals (first | refine stW ?_ | exact lfW ff | refine ruW ff ?_ | refine cdW ff ?_ | ((first | refine bdW ff ?_ ?_ | refine bxW ff ?_ ?_ | refine bnW ff ?_ ?_ | refine brW ff ?_ ?_) <;> intro h <;> try (exfalso; first | omega | contradiction)))
theorem ndep_mem : ∀ (l : List Nd) (i : Nat) (b : Nd), l[i]? = some b → b.dep ≤ Nd.deps l
  | [], i, b, h => by simp at h
  | x :: l, 0, b, h => by simp at h; subst h; simp only [Nd.deps]; omega
  | x :: l, i + 1, b, h => by have := ndep_mem l i b (by simpa using h); simp only [Nd.deps]; omega
theorem ncnts_take : ∀ (l : List Nd) (k : Nat) (b : Nd), l[k]? = some b → Nd.cnts (l.take (k + 1)) = Nd.cnts (l.take k) + b.cnt
  | [], _, _, h => by simp at h
  | x :: l, 0, b, h => by simp at h; subst h; simp [Nd.cnts]
  | x :: l, k + 1, b, h => by simp only [List.take_succ_cons, Nd.cnts]; rw [ncnts_take l k b (by simpa using h)]; omega
theorem ncnts_tle : ∀ (l : List Nd) (k : Nat), Nd.cnts (l.take k) ≤ Nd.cnts l
  | [], k => by simp [Nd.cnts]
  | x :: l, 0 => by simp [Nd.cnts]
  | x :: l, k + 1 => by simp only [List.take_succ_cons, Nd.cnts]; have := ncnts_tle l k; omega
theorem ndeps_take : ∀ (l : List Nd) (k : Nat) (b : Nd), l[k]? = some b → Nd.deps (l.take (k + 1)) = max (Nd.deps (l.take k)) b.dep
  | [], _, _, h => by simp at h
  | x :: l, 0, b, h => by simp at h; subst h; simp [Nd.deps]
  | x :: l, k + 1, b, h => by simp only [List.take_succ_cons, Nd.deps]; rw [ndeps_take l k b (by simpa using h)]; omega
/-- a property of trees, by the kids -/
theorem nd_ind {Q : Nd → Prop} (h : ∀ b : Nd, (∀ k ∈ b.kids, Q k) → Q b) : ∀ b : Nd, Q b := by
  have : ∀ (n : Nat) (b : Nd), SizeOf.sizeOf b < n → Q b := by
    intro n
    induction n with
    | zero => intro b hb; omega
    | succ n ih =>
      intro b hb
      refine h b fun k hk => ih k ?_
      have := List.sizeOf_lt_of_mem hk
      cases b
      simp only [Nd.mk.sizeOf_spec] at hb this
      omega
  exact fun b => this _ b (Nat.lt_succ_self _)
theorem ndcount_a : ∀ b : Nd, b.cnt ≤ 100000 → AC Tryz.prog 27 [ndV b] (.c (.int .i64 (b.cnt : Int))) := nd_ind fun b ih hc => by
  have hl := nrows_len b.kids
  have hkl := ncnts_len b.kids
  have hca := ncnt_at b
  obtain ⟨rs, hrs⟩ : ∃ rs, Nd.rows b.kids = rs := ⟨_, rfl⟩
  rw [hrs] at hl
  unfold ndV
  rw [hca]
  refine en Tryz.func27 Tryz.ntmps27 ?_
  have ff := (cj @hrs <| cj @hl <| Tryz.results27)
  repeat any_goals (first | refine stW ?_ | exact lfW ff | refine ruW ff ?_ | refine cdW ff ?_ | ((first | refine bdW ff ?_ ?_ | refine bxW ff ?_ ?_ | refine bnW ff ?_ ?_ | refine brW ff ?_ ?_) <;> intro h <;> try (exfalso; first | omega | contradiction)))
  refine lp (ι := { k : Nat // k ≤ b.kids.length }) (fun k => [(2, .c (.int .i64 0)), (3, .c (.int .i64 (1 + (Nd.cnts (b.kids.take k.1) : Int)))), (4, .c (.int .i64 (k.1 : Int)))]) (fun _ => [.box 24 b.vs false]) (fun k => b.kids.length - k.1) ⟨0, by simp⟩ ?_ ?_
  all_goals simp only [puts, List.foldl_cons, List.foldl_nil, List.set_cons_zero, List.set_cons_succ]
  · refine Le.weak (by simp [subT, Nd.cnts])
  · rintro ⟨k, hk⟩
    simp only
    by_cases hlt : k < b.kids.length
    · obtain ⟨c, hcc⟩ : ∃ c, b.kids[k]? = some c := ⟨_, List.getElem?_eq_getElem hlt⟩
      have hrk : rs[k]? = some c.row := by rw [← hrs]; exact nrows_get hcc
      have hltr : k < rs.length := by omega
      have hrk' := gx hrk
      have ht := ncnts_take b.kids k c hcc
      have hle := ncnts_tle b.kids (k + 1)
      have hcal := ih c (List.mem_of_getElem? hcc) (by omega)
      unfold ndV at hcal
      have w1 : IntKind.i64.wrap (1 + (Nd.cnts (b.kids.take k) : Int) + (c.cnt : Int)) = 1 + (Nd.cnts (b.kids.take (k + 1)) : Int) := by rw [wrap_i64 (by omega) (by omega), ht]; omega
      have ff := (cj @hrs <| cj @hl <| cj @hlt <| cj @hltr <| cj @hrk <| cj @hrk' <| cj @w1 <| Tryz.results27)
      repeat any_goals (first | refine stW ?_ | exact lfW ff | refine ruW ff ?_ | refine caW ff (hcal) ?_ | refine cdW ff ?_ | ((first | refine bdW ff ?_ ?_ | refine bxW ff ?_ ?_ | refine bnW ff ?_ ?_ | refine brW ff ?_ ?_) <;> intro h <;> try (exfalso; first | omega | contradiction)))
      exact ⟨⟨k + 1, by omega⟩, by simp only; omega, wd 1⟩
    · have e : b.kids.take k = b.kids := List.take_of_length_le (by omega)
      rw [e]
      have ff := (cj @hrs <| cj @hl <| cj @hlt <| Tryz.results27)
      repeat any_goals (first | refine stW ?_ | exact lfW ff | refine ruW ff ?_ | refine cdW ff ?_ | ((first | refine bdW ff ?_ ?_ | refine bxW ff ?_ ?_ | refine bnW ff ?_ ?_ | refine brW ff ?_ ?_) <;> intro h <;> try (exfalso; first | omega | contradiction)))
theorem rdepth_a : ∀ b : Nd, b.cnt ≤ 100000 → AC Tryz.prog 28 [ndV b] (.c (.int .i64 (b.dep : Int))) := nd_ind fun b ih hc => by
  have hl := nrows_len b.kids
  have hkl := ncnts_len b.kids
  have hca := ncnt_at b
  have hdl := ndep_le _ b (Nat.lt_succ_self _)
  obtain ⟨rs, hrs⟩ : ∃ rs, Nd.rows b.kids = rs := ⟨_, rfl⟩
  rw [hrs] at hl
  unfold ndV
  have hda := ndep_at b
  have wz : IntKind.i64.wrap ((Nd.deps b.kids : Int) + 1) = (b.dep : Int) := by rw [wrap_i64 (by omega) (by omega)]; omega
  refine en Tryz.func28 Tryz.ntmps28 ?_
  have ff := (cj @hrs <| cj @hl <| Tryz.results28)
  repeat any_goals (first | refine stW ?_ | exact lfW ff | refine ruW ff ?_ | refine cdW ff ?_ | ((first | refine bdW ff ?_ ?_ | refine bxW ff ?_ ?_ | refine bnW ff ?_ ?_ | refine brW ff ?_ ?_) <;> intro h <;> try (exfalso; first | omega | contradiction)))
  refine lp (ι := { k : Nat // k ≤ b.kids.length }) (fun k => [(2, .c (.int .i64 0)), (3, .c (.int .i64 (Nd.deps (b.kids.take k.1) : Int))), (4, .c (.int .i64 (k.1 : Int)))]) (fun _ => [.box 24 b.vs false]) (fun k => b.kids.length - k.1) ⟨0, by simp⟩ ?_ ?_
  all_goals simp only [puts, List.foldl_cons, List.foldl_nil, List.set_cons_zero, List.set_cons_succ]
  · refine Le.weak (by simp [subT, Nd.deps])
  · rintro ⟨k, hk⟩
    simp only
    by_cases hlt : k < b.kids.length
    · obtain ⟨c, hcc⟩ : ∃ c, b.kids[k]? = some c := ⟨_, List.getElem?_eq_getElem hlt⟩
      have hrk : rs[k]? = some c.row := by rw [← hrs]; exact nrows_get hcc
      have hltr : k < rs.length := by omega
      have hrk' := gx hrk
      have ht := ndeps_take b.kids k c hcc
      have hcn := ncnts_get b.kids k c hcc
      have hcal := ih c (List.mem_of_getElem? hcc) (by omega)
      unfold ndV at hcal
      obtain ⟨D, hD⟩ : ∃ D, Nd.deps (b.kids.take k) = D := ⟨_, rfl⟩
      rw [hD] at ht ⊢
      have w1 : (if D < c.dep then (c.dep : Int) else (D : Int)) = (Nd.deps (b.kids.take (k + 1)) : Int) := by rw [ht]; split <;> omega
      have ff := (cj @hrs <| cj @hl <| cj @hlt <| cj @hltr <| cj @hrk <| cj @hrk' <| cj @w1 <| Tryz.results28)
      repeat any_goals (first | refine stW ?_ | exact lfW ff | refine ruW ff ?_ | refine caW ff (hcal) ?_ | refine cdW ff ?_ | ((first | refine bdW ff ?_ ?_ | refine bxW ff ?_ ?_ | refine bnW ff ?_ ?_ | refine brW ff ?_ ?_) <;> intro h <;> try (exfalso; first | omega | contradiction)))
      exact ⟨⟨k + 1, by omega⟩, by simp only; omega, wd 1⟩
    · have e : b.kids.take k = b.kids := List.take_of_length_le (by omega)
      rw [e]
      have ff := (cj @hrs <| cj @hl <| cj @hlt <| cj @wz <| Tryz.results28)
      repeat any_goals (first | refine stW ?_ | exact lfW ff | refine ruW ff ?_ | refine cdW ff ?_ | ((first | refine bdW ff ?_ ?_ | refine bxW ff ?_ ?_ | refine bnW ff ?_ ?_ | refine brW ff ?_ ?_) <;> intro h <;> try (exfalso; first | omega | contradiction)))
set_option maxHeartbeats 3200000 in
theorem rleft_a : ∀ b : Nd, ∀ m : Int, b.okk → 0 ≤ m → m ≤ 100000 → AC Tryz.prog 11 [ndV b, .c (.int .i64 m)] (.c (.int .i64 (b.leftI m))) := nd_ind fun b ih m hok hm hm2 => by
  obtain ⟨_, hlen, hoks⟩ := nokk_at b hok
  have hl := nrows_len b.kids
  have hA : b.leftI m = Nd.leftsI b.kids (m - 1) := by cases b; rfl
  obtain ⟨R, hR⟩ : ∃ R, Nd.leftsI b.kids (m - 1) = R := ⟨_, rfl⟩
  rw [hA, hR]
  obtain ⟨rs, hrs⟩ : ∃ rs, Nd.rows b.kids = rs := ⟨_, rfl⟩
  rw [hrs] at hl
  unfold ndV
  unfold maxLen at hlen
  refine en Tryz.func11 Tryz.ntmps11 ?_
  have ff := (cj @hrs <| cj @hl <| Tryz.results11)
  repeat any_goals (first | refine stW ?_ | exact lfW ff | refine ruW ff ?_ | refine cdW ff ?_ | ((first | refine bdW ff ?_ ?_ | refine bxW ff ?_ ?_ | refine bnW ff ?_ ?_ | refine brW ff ?_ ?_) <;> intro h <;> try (exfalso; first | omega | contradiction)))
  refine lp (ι := { k : Nat × Int // k.1 ≤ b.kids.length ∧ -1 ≤ k.2 ∧ k.2 ≤ 100000 ∧ R = Nd.leftsI (b.kids.drop k.1) k.2 }) (fun k => [(1, .c (.int .i64 k.1.2)), (4, .c (.int .i64 0)), (5, .c (.int .i64 (k.1.1 : Int)))]) (fun _ => [.box 24 b.vs false]) (fun k => b.kids.length - k.1.1) ⟨(0, m - 1), by simp, by simp only; omega, by simp only; omega, by simp [hR]⟩ ?_ ?_
  all_goals simp only [puts, List.foldl_cons, List.foldl_nil, List.set_cons_zero, List.set_cons_succ]
  · refine Le.weak (by simp [subT])
  · rintro ⟨⟨k, n⟩, hk, n1, n2, hI⟩
    simp only at hk n1 n2 hI ⊢
    by_cases hlt : k < b.kids.length
    · obtain ⟨c, hcc⟩ : ∃ c, b.kids[k]? = some c := ⟨_, List.getElem?_eq_getElem hlt⟩
      have hrk : rs[k]? = some c.row := by rw [← hrs]; exact nrows_get hcc
      have hltr : k < rs.length := by omega
      have hrk' := gx hrk
      rw [List.drop_eq_getElem_cons hlt, gx hcc] at hI
      simp only [Nd.leftsI] at hI
      by_cases h0 : 0 ≤ n
      · rw [if_pos h0] at hI
        have hcal := ih c (List.mem_of_getElem? hcc) n (nokks_mem hoks c (List.mem_of_getElem? hcc)) h0 n2
        have hbd := leftI_eq c n h0
        unfold ndV at hcal
        have ff := (cj @hrs <| cj @hl <| cj @hlt <| cj @hltr <| cj @hrk <| cj @hrk' <| cj @h0 <| Tryz.results11)
        repeat any_goals (first | refine stW ?_ | exact lfW ff | refine ruW ff ?_ | refine caW ff (hcal) ?_ | refine cdW ff ?_ | ((first | refine bdW ff ?_ ?_ | refine bxW ff ?_ ?_ | refine bnW ff ?_ ?_ | refine brW ff ?_ ?_) <;> intro h <;> try (exfalso; first | omega | contradiction)))
        exact ⟨⟨(k + 1, c.leftI n), by simp only; omega, by simp only; omega, by simp only; omega, hI⟩, by simp only; omega, wd 1⟩
      · rw [if_neg h0] at hI
        have ff := (cj @hrs <| cj @hl <| cj @hlt <| cj @hltr <| cj @h0 <| Tryz.results11)
        repeat any_goals (first | refine stW ?_ | exact lfW ff | refine ruW ff ?_ | refine cdW ff ?_ | ((first | refine bdW ff ?_ ?_ | refine bxW ff ?_ ?_ | refine bnW ff ?_ ?_ | refine brW ff ?_ ?_) <;> intro h <;> try (exfalso; first | omega | contradiction)))
    · rw [List.drop_of_length_le (by omega)] at hI
      simp only [Nd.leftsI] at hI
      have ff := (cj @hrs <| cj @hl <| cj @hlt <| Tryz.results11)
      repeat any_goals (first | refine stW ?_ | exact lfW ff | refine ruW ff ?_ | refine cdW ff ?_ | ((first | refine bdW ff ?_ ?_ | refine bxW ff ?_ ?_ | refine bnW ff ?_ ?_ | refine brW ff ?_ ?_) <;> intro h <;> try (exfalso; first | omega | contradiction)))
theorem rfew9_a (b : Nd) (m : Int) (hok : b.okk) (hm : 0 ≤ m) (hm2 : m ≤ 100000) : AC Tryz.prog 5 [ndV b, .c (.int .i64 m)] (.c (.bool (decide ((b.cnt : Int) ≤ m)))) := by
  have h := rleft_a b m hok hm hm2
  rw [← nfew_iff b m hm]
  unfold ndV at h ⊢
  refine en Tryz.func5 Tryz.ntmps5 ?_
  have ff := (Tryz.results5)
  repeat any_goals (first | refine stW ?_ | exact lfW ff | refine ruW ff ?_ | refine caW ff (h) ?_ | refine cdW ff ?_ | ((first | refine bdW ff ?_ ?_ | refine bxW ff ?_ ?_ | refine bnW ff ?_ ?_ | refine brW ff ?_ ?_) <;> intro h <;> try (exfalso; first | omega | contradiction)))
set_option maxHeartbeats 3200000 in
theorem rform_a : ∀ b : Nd, b.okk → AC Tryz.prog 26 [ndV b] (.c (.bool b.formB)) := nd_ind fun b ih hok => by
  obtain ⟨_, hlen, hoks⟩ := nokk_at b hok
  have hl := nrows_len b.kids
  have ht := rtext_a b hok
  have hk := rkids_a b hok
  rw [nform_at]
  unfold Nd.ownB
  obtain ⟨K, hK⟩ : ∃ K, b.kind = K := ⟨_, rfl⟩
  obtain ⟨rs, hrs⟩ : ∃ rs, Nd.rows b.kids = rs := ⟨_, rfl⟩
  rw [hrs] at hl
  unfold ndV at ht hk ⊢
  unfold maxLen at hlen
  cases e1 : textB b.kind b.text with
  | false =>
    rw [e1] at ht
    refine en Tryz.func26 Tryz.ntmps26 ?_
    have ff := (Tryz.results26)
    repeat any_goals (first | refine stW ?_ | exact lfW ff | refine ruW ff ?_ | refine caW ff (ht) ?_ | refine cdW ff ?_ | ((first | refine bdW ff ?_ ?_ | refine bxW ff ?_ ?_ | refine bnW ff ?_ ?_ | refine brW ff ?_ ?_) <;> intro h <;> try (exfalso; first | omega | contradiction)))
  | true =>
  rw [e1] at ht
  cases e2 : kidsB b.kind b.cols b.kids.length with
  | false =>
    rw [e2] at hk
    refine en Tryz.func26 Tryz.ntmps26 ?_
    have ff := (Tryz.results26)
    repeat any_goals (first | refine stW ?_ | exact lfW ff | refine ruW ff ?_ | refine caW ff (ht) ?_ | refine caW ff (hk) ?_ | refine cdW ff ?_ | ((first | refine bdW ff ?_ ?_ | refine bxW ff ?_ ?_ | refine bnW ff ?_ ?_ | refine brW ff ?_ ?_) <;> intro h <;> try (exfalso; first | omega | contradiction)))
  | true =>
  rw [e2] at hk
  rw [Bool.true_and, Bool.true_and]
  rw [hK]
  refine en Tryz.func26 Tryz.ntmps26 ?_
  have ff := (cj @hrs <| cj @hl <| Tryz.results26)
  repeat any_goals (first | refine stW ?_ | exact lfW ff | refine ruW ff ?_ | refine caW ff (ht) ?_ | refine caW ff (hk) ?_ | refine cdW ff ?_ | ((first | refine bdW ff ?_ ?_ | refine bxW ff ?_ ?_ | refine bnW ff ?_ ?_ | refine brW ff ?_ ?_) <;> intro h <;> try (exfalso; first | omega | contradiction)))
  refine lp (ι := { k : Nat // k ≤ b.kids.length ∧ Nd.formsB K b.kids = Nd.formsB K (b.kids.drop k) }) (fun k => [(2, .c (.bool false)), (3, .c (.int .i64 (k.1 : Int)))]) (fun _ => [.box 24 b.vs false]) (fun k => b.kids.length - k.1) ⟨0, by simp⟩ ?_ ?_
  all_goals simp only [puts, List.foldl_cons, List.foldl_nil, List.set_cons_zero, List.set_cons_succ]
  · refine Le.weak (by simp [subT])
  · rintro ⟨k, hk, hI⟩
    simp only
    by_cases hlt : k < b.kids.length
    · obtain ⟨c, hcc⟩ : ∃ c, b.kids[k]? = some c := ⟨_, List.getElem?_eq_getElem hlt⟩
      have hrk : rs[k]? = some c.row := by rw [← hrs]; exact nrows_get hcc
      have hltr : k < rs.length := by omega
      have hrk' := gx hrk
      rw [List.drop_eq_getElem_cons hlt, gx hcc] at hI
      simp only [Nd.formsB] at hI
      have hcal := ih c (List.mem_of_getElem? hcc) (nokks_mem hoks c (List.mem_of_getElem? hcc))
      unfold ndV at hcal
      cases em : mixB K c.kind with
      | true =>
        rw [em, Bool.not_true, Bool.false_and, Bool.false_and] at hI
        unfold mixB at em
        have ff := (cj @hrs <| cj @hl <| cj @hlt <| cj @hltr <| cj @hrk <| cj @hrk' <| cj @hK <| cj @em <| Tryz.results26)
        repeat any_goals (first | refine stW ?_ | exact lfW ff | refine ruW ff ?_ | refine cdW ff ?_ | ((first | refine bdW ff ?_ ?_ | refine bxW ff ?_ ?_ | refine bnW ff ?_ ?_ | refine brW ff ?_ ?_) <;> intro h <;> try (exfalso; first | omega | contradiction)))
      | false =>
        rw [em, Bool.not_false, Bool.true_and] at hI
        unfold mixB at em
        cases ef : c.formB with
        | true =>
          rw [ef, Bool.true_and] at hI
          rw [ef] at hcal
          have ff := (cj @hrs <| cj @hl <| cj @hlt <| cj @hltr <| cj @hrk <| cj @hrk' <| cj @hK <| cj @em <| Tryz.results26)
          repeat any_goals (first | refine stW ?_ | exact lfW ff | refine ruW ff ?_ | refine caW ff (hcal) ?_ | refine cdW ff ?_ | ((first | refine bdW ff ?_ ?_ | refine bxW ff ?_ ?_ | refine bnW ff ?_ ?_ | refine brW ff ?_ ?_) <;> intro h <;> try (exfalso; first | omega | contradiction)))
          exact ⟨⟨k + 1, by omega, hI⟩, by simp only; omega, wd 1⟩
        | false =>
          rw [ef, Bool.false_and] at hI
          rw [ef] at hcal
          have ff := (cj @hrs <| cj @hl <| cj @hlt <| cj @hltr <| cj @hrk <| cj @hrk' <| cj @hK <| cj @em <| Tryz.results26)
          repeat any_goals (first | refine stW ?_ | exact lfW ff | refine ruW ff ?_ | refine caW ff (hcal) ?_ | refine cdW ff ?_ | ((first | refine bdW ff ?_ ?_ | refine bxW ff ?_ ?_ | refine bnW ff ?_ ?_ | refine brW ff ?_ ?_) <;> intro h <;> try (exfalso; first | omega | contradiction)))
    · rw [List.drop_of_length_le (by omega)] at hI
      simp only [Nd.formsB] at hI
      have ff := (cj @hrs <| cj @hl <| cj @hlt <| Tryz.results26)
      repeat any_goals (first | refine stW ?_ | exact lfW ff | refine ruW ff ?_ | refine cdW ff ?_ | ((first | refine bdW ff ?_ ?_ | refine bxW ff ?_ ?_ | refine bnW ff ?_ ?_ | refine brW ff ?_ ?_) <;> intro h <;> try (exfalso; first | omega | contradiction)))
theorem rvalid9_a (b : Nd) (hok : b.okk) (hc : b.cnt ≤ 100000) : AC Tryz.prog 16 [ndV b] (.c (.bool b.validB)) := by
  have h1 := rform_a b hok
  have h2 := ndcount_a b hc
  have h3 := rdepth_a b hc
  unfold Nd.validB
  have e1 : ((b.cnt : Int) ≤ 1000) = (b.cnt ≤ 1000) := by rw [eq_iff_iff]; omega
  have e2 : ((b.dep : Int) ≤ 24) = (b.dep ≤ 24) := by rw [eq_iff_iff]; omega
  unfold ndV at *
  by_cases k1 : b.kind = 1
  · rw [decide_eq_true k1, Bool.true_and]
    obtain ⟨F, hF⟩ : ∃ F, b.formB = F := ⟨_, rfl⟩
    rw [hF] at h1 ⊢
    cases F with
    | false =>
      refine en Tryz.func16 Tryz.ntmps16 ?_
      have ff := (cj @k1 <| Tryz.results16)
      repeat any_goals (first | refine stW ?_ | exact lfW ff | refine ruW ff ?_ | refine caW ff (h1) ?_ | refine cdW ff ?_ | ((first | refine bdW ff ?_ ?_ | refine bxW ff ?_ ?_ | refine bnW ff ?_ ?_ | refine brW ff ?_ ?_) <;> intro h <;> try (exfalso; first | omega | contradiction)))
    | true =>
      rw [Bool.true_and]
      by_cases g : b.cnt ≤ 1000
      · rw [decide_eq_true g, Bool.true_and]
        refine en Tryz.func16 Tryz.ntmps16 ?_
        have ff := (cj @k1 <| cj @e1 <| cj @e2 <| cj @g <| Tryz.results16)
        repeat any_goals (first | refine stW ?_ | exact lfW ff | refine ruW ff ?_ | refine caW ff (h1) ?_ | refine caW ff (h2) ?_ | refine caW ff (h3) ?_ | refine cdW ff ?_ | ((first | refine bdW ff ?_ ?_ | refine bxW ff ?_ ?_ | refine bnW ff ?_ ?_ | refine brW ff ?_ ?_) <;> intro h <;> try (exfalso; first | omega | contradiction)))
      · rw [decide_eq_false g, Bool.false_and]
        refine en Tryz.func16 Tryz.ntmps16 ?_
        have ff := (cj @k1 <| cj @e1 <| cj @e2 <| cj @g <| Tryz.results16)
        repeat any_goals (first | refine stW ?_ | exact lfW ff | refine ruW ff ?_ | refine caW ff (h1) ?_ | refine caW ff (h2) ?_ | refine cdW ff ?_ | ((first | refine bdW ff ?_ ?_ | refine bxW ff ?_ ?_ | refine bnW ff ?_ ?_ | refine brW ff ?_ ?_) <;> intro h <;> try (exfalso; first | omega | contradiction)))
  · rw [decide_eq_false k1, Bool.false_and]
    refine en Tryz.func16 Tryz.ntmps16 ?_
    have ff := (cj @k1 <| Tryz.results16)
    repeat any_goals (first | refine stW ?_ | exact lfW ff | refine ruW ff ?_ | refine cdW ff ?_ | ((first | refine bdW ff ?_ ?_ | refine bxW ff ?_ ?_ | refine bnW ff ?_ ?_ | refine brW ff ?_ ?_) <;> intro h <;> try (exfalso; first | omega | contradiction)))
def rowN (l : List Nd) : Nd := ⟨1, ⟨#[]⟩, 0, l⟩
theorem rtoRow_a (l : List Nd) : AC Tryz.prog 9 [.c (.sl (Nd.rows l))] (ndV (rowN l)) := by
  have e : ndV (rowN l) = .agg [.c (.int .i64 1), .c (.str ⟨#[]⟩), .c (.int .i64 0), .c (.sl (Nd.rows l))] := rfl
  rw [e]
  refine en Tryz.func9 Tryz.ntmps9 ?_
  have ff := (Tryz.results9)
  repeat any_goals (first | refine stW ?_ | exact lfW ff | refine ruW ff ?_ | refine cdW ff ?_ | ((first | refine bdW ff ?_ ?_ | refine bxW ff ?_ ?_ | refine bnW ff ?_ ?_ | refine brW ff ?_ ?_) <;> intro h <;> try (exfalso; first | omega | contradiction)))
end Go.Proofs.YteacdpklcopedaaGreat
