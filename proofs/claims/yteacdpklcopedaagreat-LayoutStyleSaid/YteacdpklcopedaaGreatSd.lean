/-
  Styles of rows by their paths (layer 38), both sides.
-/
import Derived.Test.YteacdpklcopedaaGreatSa
import Derived.Test.YteacdpklcopedaaGreatSc
namespace Go.Proofs.YteacdpklcopedaaGreat
open Go.RowKit
set_option linter.unusedSimpArgs false
set_option linter.unusedVariables false
set_option maxRecDepth 100000

def styleN : Nd → List Int → Style → Style
  | n, i :: j :: r, s => match kidN n i with
    | none => s
    | some m => match kidN m j with
      | none => s
      | some q => styleN q r (slotS m.kind j s)
  | _, _, s => s
def styleR (n : Nd) (l : List Int) (s : Style) : Style × Int :=
  if n.validB = false ∨ s.ok = false then (⟨0, false⟩, 1) else match findN n l with
    | none => (⟨0, false⟩, 8)
    | some _ => (styleN n l s, 0)
theorem formsB_at {k : Int} : ∀ {l : List Nd} {a : Nat} {b : Nd}, Nd.formsB k l = true → l[a]? = some b → mixB k b.kind = false ∧ b.formB = true
  | [], a, b, _, h => by simp at h
  | x :: l, 0, b, hf, h => by
    simp at h
    subst h
    simp only [Nd.formsB, Bool.and_eq_true, Bool.not_eq_true'] at hf
    exact hf.1
  | x :: l, a + 1, b, hf, h => by
    simp only [Nd.formsB, Bool.and_eq_true] at hf
    exact formsB_at hf.2 (by simpa using h)
theorem slot_in {k c : Int} {n : Nat} {j : Nat} (h : kidsB k c n = true) (hj : j < n) (hk : k ≠ 1) : (j : Int) < slotN k := by
  unfold kidsB at h
  unfold slotN
  by_cases q12 : k = 12
  · rw [if_pos q12] at h
    subst q12
    simp only [Bool.and_eq_true, decide_eq_true_eq] at h
    have := h.2.2.2.1
    simp
    omega
  rw [if_neg q12] at h
  by_cases qc : c ≠ 0
  · rw [if_pos qc] at h; cases h
  rw [if_neg qc, if_neg hk] at h
  by_cases q2 : k = 2 ∨ k = 3 ∨ k = 4
  · rw [if_pos q2] at h
    have := of_decide_eq_true h
    omega
  rw [if_neg q2] at h
  by_cases q5 : k = 5 ∨ k = 6 ∨ k = 7 ∨ k = 8
  · rw [if_pos q5] at h ⊢
    have := of_decide_eq_true h
    omega
  rw [if_neg q5] at h ⊢
  by_cases q9 : k = 9
  · rw [if_pos q9] at h ⊢
    have := of_decide_eq_true h
    omega
  rw [if_neg q9] at h ⊢
  by_cases q10 : k = 10 ∨ k = 11
  · rw [if_pos q10] at h ⊢
    have := of_decide_eq_true h
    omega
  rw [if_neg q10] at h
  cases h
theorem slotS_ok {k i : Int} {s : Style} (h : s.ok = true) : (slotS k i s).ok = true := by
  obtain ⟨l, c⟩ := s
  have hl : 0 ≤ l ∧ l ≤ 3 := by unfold Style.ok at h; simpa using h
  have key : ∀ (L : Int) (b : Bool), 0 ≤ L → L ≤ 3 → Style.ok ⟨L, b⟩ = true := by intro L b h1 h2; unfold Style.ok; simp [h1, h2]
  unfold slotS scriptL
  simp only
  by_cases h1 : k = 5
  · rw [if_pos h1]; exact key _ _ (by split <;> omega) (by split <;> omega)
  rw [if_neg h1]
  by_cases h2 : k = 6
  · rw [if_pos h2]
    split
    · exact key _ _ (by omega) (by omega)
    · exact key _ _ hl.1 hl.2
  rw [if_neg h2]
  by_cases h3 : k = 7 ∨ k = 8 ∨ k = 9
  · rw [if_pos h3]
    split
    · exact key _ _ hl.1 hl.2
    · exact key _ _ (by split <;> omega) (by split <;> omega)
  rw [if_neg h3]
  split
  · exact key _ _ hl.1 hl.2
  · split
    · exact key _ _ (by split <;> omega) (by split <;> omega)
    · exact key _ _ hl.1 hl.2
/-- a row of a valid tree -/
def rowOk (n : Nd) : Prop := n.kind = 1 ∧ n.formB = true ∧ n.okk
theorem row_step {n m q : Nd} {i j : Int} (hn : rowOk n) (hm : kidN n i = some m) (hq : kidN m j = some q) (s : Style) (hs : s.ok = true) : rowOk q ∧ slotR m.kind j s = (slotS m.kind j s, 0) := by
  obtain ⟨h1, h2, h3⟩ := hn
  obtain ⟨a, rfl, ha, _, ha2⟩ := kid_some hm
  obtain ⟨b, rfl, hb, _, hb2⟩ := kid_some hq
  rw [nform_at, Bool.and_eq_true, h1] at h2
  obtain ⟨m1, m2⟩ := formsB_at h2.2 ha2
  have hmk : m.kind ≠ 1 := by intro e; rw [e] at m1; simp [mixB] at m1
  rw [nform_at, Bool.and_eq_true] at m2
  obtain ⟨q1, q2⟩ := formsB_at m2.2 hb2
  have hqk : q.kind = 1 := by
    unfold mixB at q1
    rw [decide_eq_false hmk] at q1
    by_cases e : q.kind = 1
    · exact e
    · rw [decide_eq_false e] at q1; cases q1
  have hown := m2.1
  unfold Nd.ownB at hown
  rw [Bool.and_eq_true] at hown
  have hsl := slot_in hown.2 hb hmk
  refine ⟨⟨hqk, q2, nokk_kid (nokk_kid h3 hm) hq⟩, ?_⟩
  unfold slotR
  rw [if_neg (by rw [hs]; intro h; rcases h with h | h; (· cases h); (· omega)), if_neg (by omega)]
def stEV (r : Style × Int) : V := .tup [styleV r.1, .c (.int .i64 r.2)]
set_option maxHeartbeats 4000000 in
theorem rstyle38_a (n : Nd) (l : List Int) (s : Style) (hok : n.okk) (hc : n.cnt ≤ 100000) (hl : l.length ≤ 1000000) : AC Tryz.prog 7 [ndV n, .c (intsC l), styleV s] (stEV (styleR n l s)) := by
  have hv := rvalid9_a n hok hc
  have hr := rrow9_a n l hok hc hl
  have hs := rstvalid_a s
  obtain ⟨L, hL⟩ : ∃ L, intsC l = L := ⟨_, rfl⟩
  unfold stEV styleR
  unfold ndEV rowR9 at hr
  cases hvb : n.validB with
  | false =>
    rw [hvb] at hv
    rw [if_pos (.inl rfl), hL]
    unfold ndV styleV at *
    refine en Tryz.func7 Tryz.ntmps7 ?_
    have ff := (Tryz.results7)
    repeat any_goals (first | refine stW ?_ | exact lfW ff | refine ruW ff ?_ | refine caW ff (hv) ?_ | refine cdW ff ?_ | ((first | refine bdW ff ?_ ?_ | refine bxW ff ?_ ?_ | refine bnW ff ?_ ?_ | refine brW ff ?_ ?_) <;> intro h <;> try (exfalso; first | omega | contradiction)))
  | true =>
  rw [hvb] at hv
  rw [if_neg (by rw [hvb]; simp)] at hr
  cases hso : s.ok with
  | false =>
    rw [hso] at hs
    rw [if_pos (.inr rfl), hL]
    unfold ndV styleV at *
    refine en Tryz.func7 Tryz.ntmps7 ?_
    have ff := (Tryz.results7)
    repeat any_goals (first | refine stW ?_ | exact lfW ff | refine ruW ff ?_ | refine caW ff (hv) ?_ | refine caW ff (hs) ?_ | refine cdW ff ?_ | ((first | refine bdW ff ?_ ?_ | refine bxW ff ?_ ?_ | refine bnW ff ?_ ?_ | refine brW ff ?_ ?_) <;> intro h <;> try (exfalso; first | omega | contradiction)))
  | true =>
  rw [hso] at hs
  rw [if_neg (by simp)]
  cases hfn : findN n l with
  | none =>
    rw [hfn] at hr
    rw [hL] at hr ⊢
    unfold ndV styleV at *
    refine en Tryz.func7 Tryz.ntmps7 ?_
    have ff := (Tryz.results7)
    repeat any_goals (first | refine stW ?_ | exact lfW ff | refine ruW ff ?_ | refine caW ff (hv) ?_ | refine caW ff (hs) ?_ | refine caW ff (hr) ?_ | refine cdW ff ?_ | ((first | refine bdW ff ?_ ?_ | refine bxW ff ?_ ?_ | refine bnW ff ?_ ?_ | refine brW ff ?_ ?_) <;> intro h <;> try (exfalso; first | omega | contradiction)))
  | some m =>
    rw [hfn] at hr
    obtain ⟨R, hR⟩ : ∃ R, styleN n l s = R := ⟨_, rfl⟩
    simp only at hr ⊢
    rw [hR]
    unfold ndV styleV at *
    refine en Tryz.func7 Tryz.ntmps7 ?_
    have ff := (Tryz.results7)
    repeat any_goals (first | refine stW ?_ | exact lfW ff | refine ruW ff ?_ | refine caW ff (hv) ?_ | refine caW ff (hs) ?_ | refine caW ff (hr) ?_ | refine cdW ff ?_ | ((first | refine bdW ff ?_ ?_ | refine bxW ff ?_ ?_ | refine bnW ff ?_ ?_ | refine brW ff ?_ ?_) <;> intro h <;> try (exfalso; first | omega | contradiction)))
    have hrow : rowOk n := by
      unfold Nd.validB at hvb
      simp only [Bool.and_eq_true, decide_eq_true_eq] at hvb
      exact ⟨hvb.1, hvb.2.1, hok⟩
    have hbit : ∃ x, findN n (l.drop 0) = some x := ⟨m, hfn⟩
    clear hr hv hs hL L
    unfold intsC
    refine lp (ι := { p : Nd × Nat × Style // p.2.1 ≤ l.length ∧ (∃ x, findN p.1 (l.drop p.2.1) = some x) ∧ styleN p.1 (l.drop p.2.1) p.2.2 = R ∧ rowOk p.1 ∧ p.2.2.ok = true }) (fun p => [(10, .c (.int .i64 (p.1.2.1 : Int)))]) (fun p => [.box 24 p.1.1.vs false, .box 27 [.c (.int .i64 p.1.2.2.level), .c (.bool p.1.2.2.cramped)] false, .box 27 [.c (.int .i64 0), .c (.bool false)] false, .box 24 m.vs false]) (fun p => l.length - p.1.2.1) ⟨(n, 0, s), Nat.zero_le _, hbit, hR, hrow, hso⟩ ?_ ?_
    all_goals simp only [puts, List.foldl_cons, List.foldl_nil, List.set_cons_zero, List.set_cons_succ]
    · exact wd 4
    rintro ⟨⟨n, k, s⟩, hk, ⟨x, hx⟩, hR, hrow, hso⟩
    simp only at hk hx hR hrow hso ⊢
    match hd : l.drop k with
    | [] =>
      rw [hd] at hR
      simp only [styleN] at hR
      subst hR
      have hkl : l.length ≤ k := by have := List.length_drop (l := l) (i := k); rw [hd] at this; simp at this; omega
      have hkl1 : ¬ k < l.length := by omega
      have ff := (cj @hkl1 <| Tryz.results7)
      repeat any_goals (first | refine stW ?_ | exact lfW ff | refine ruW ff ?_ | refine cdW ff ?_ | ((first | refine bdW ff ?_ ?_ | refine bxW ff ?_ ?_ | refine bnW ff ?_ ?_ | refine brW ff ?_ ?_) <;> intro h <;> try (exfalso; first | omega | contradiction)))
    | [i] => rw [hd] at hx; simp [findN] at hx
    | i :: j :: r =>
      rw [hd] at hx hR
      simp only [findN] at hx
      simp only [styleN] at hR
      have hlen : k + 2 ≤ l.length := by have := List.length_drop (l := l) (i := k); rw [hd] at this; simp at this; omega
      have hik : l[k]? = some i := by have := List.getElem?_drop (xs := l) (i := k) (j := 0); rw [hd] at this; simpa using this.symm
      have hjk : l[k + 1]? = some j := by have := List.getElem?_drop (xs := l) (i := k) (j := 1); rw [hd] at this; simpa using this.symm
      have hrk : l.drop (k + 2) = r := by have := List.drop_drop (l := l) (i := 2) (j := k); rw [hd] at this; simpa [Nat.add_comm] using this.symm
      cases hm : kidN n i with
      | none => rw [hm] at hx; simp at hx
      | some m' =>
        rw [hm] at hx hR
        simp only at hx hR
        cases hq : kidN m' j with
        | none => rw [hq] at hx; simp at hx
        | some q =>
          rw [hq] at hx hR
          simp only at hx hR
          obtain ⟨hrow', hslot⟩ := row_step hrow hm hq s hso
          have hso' := slotS_ok (k := m'.kind) (i := j) hso
          have hsl := rslot25_a m'.kind j s
          rw [hslot] at hsl
          obtain ⟨S', hS'⟩ : ∃ S', slotS m'.kind j s = S' := ⟨_, rfl⟩
          rw [hS'] at hsl hso' hR
          unfold styEV styleV errV at hsl
          simp only at hsl
          obtain ⟨a, rfl, ha, hra, _⟩ := kid_some hm
          obtain ⟨b, rfl, hb, hrb, _⟩ := kid_some hq
          have hra' := gx hra
          have hrb' := gx hrb
          have hik' := gx hik
          have hjk' := gx hjk
          have hk1 : k < l.length := by omega
          have hk2 : k + 1 < l.length := by omega
          have hw1 : IntKind.i64.wrap ((k : Int) + 1) = ((k + 1 : Nat) : Int) := by rw [wrap_i64 (by omega) (by omega)]; simp
          have hw2 : IntKind.i64.wrap ((k : Int) + 2) = ((k + 2 : Nat) : Int) := by rw [wrap_i64 (by omega) (by omega)]; simp
          have hnl := nrows_len n.kids
          have hml := nrows_len m'.kids
          have ha0 : ¬ ((a : Int) < 0) := by omega
          have hb0 : ¬ ((b : Int) < 0) := by omega
          obtain ⟨K1, hK1⟩ : ∃ K1, k + 1 = K1 := ⟨_, rfl⟩
          obtain ⟨K2, hK2⟩ : ∃ K2, k + 2 = K2 := ⟨_, rfl⟩
          rw [hK1] at hw1 hjk hk2
          rw [hK2] at hw2 hrk hlen
          have hjk' := gx hjk
          have ff := (cj @hik <| cj @hik' <| cj @hjk <| cj @hjk' <| cj @hra <| cj @hra' <| cj @hrb <| cj @hrb' <| cj @hk1 <| cj @hk2 <| cj @hw1 <| cj @hw2 <| cj @hnl <| cj @hml <| cj @ha <| cj @hb <| cj @ha0 <| cj @hb0 <| Tryz.results7)
          repeat any_goals (first | refine stW ?_ | exact lfW ff | refine ruW ff ?_ | refine caW ff (hsl) ?_ | refine cdW ff ?_ | ((first | refine bdW ff ?_ ?_ | refine bxW ff ?_ ?_ | refine bnW ff ?_ ?_ | refine brW ff ?_ ?_) <;> intro h <;> try (exfalso; first | omega | contradiction)))
          refine ⟨⟨(q, K2, S'), by show K2 ≤ l.length; omega, ⟨x, by show findN q (l.drop K2) = _; rw [hrk]; exact hx⟩, by show styleN q (l.drop K2) S' = R; rw [hrk]; exact hR, hrow', hso'⟩, by show l.length - K2 < l.length - k; omega, ?_⟩
          exact wd 4
set_option maxHeartbeats 4000000 in
theorem pstyle38_a (n : Nd) (l : List Int) (s : Style) (hok : n.okk) (hc : n.cnt ≤ 100000) (hl : l.length ≤ 1000000) : AC Tryz.prog 6 [ndV n, .c (intsC l), styleV s] (stEV (styleR n l s)) := by
  have hv := pvalid9_a n hok (by omega)
  have hr := prow9_a n l hok hc hl
  have hs := stvalid_a s
  obtain ⟨L, hL⟩ : ∃ L, intsC l = L := ⟨_, rfl⟩
  unfold stEV styleR
  unfold ndEV rowR9 at hr
  cases hvb : n.validB with
  | false =>
    rw [hvb] at hv
    rw [if_pos (.inl rfl), hL]
    unfold ndV styleV at *
    refine en Tryz.func6 Tryz.ntmps6 ?_
    have ff := (Tryz.results6)
    repeat any_goals (first | refine stW ?_ | exact lfW ff | refine ruW ff ?_ | refine caW ff (hv) ?_ | refine cdW ff ?_ | ((first | refine bdW ff ?_ ?_ | refine bxW ff ?_ ?_ | refine bnW ff ?_ ?_ | refine brW ff ?_ ?_) <;> intro h <;> try (exfalso; first | omega | contradiction)))
  | true =>
  rw [hvb] at hv
  rw [if_neg (by rw [hvb]; simp)] at hr
  cases hso : s.ok with
  | false =>
    rw [hso] at hs
    rw [if_pos (.inr rfl), hL]
    unfold ndV styleV at *
    refine en Tryz.func6 Tryz.ntmps6 ?_
    have ff := (Tryz.results6)
    repeat any_goals (first | refine stW ?_ | exact lfW ff | refine ruW ff ?_ | refine caW ff (hv) ?_ | refine caW ff (hs) ?_ | refine cdW ff ?_ | ((first | refine bdW ff ?_ ?_ | refine bxW ff ?_ ?_ | refine bnW ff ?_ ?_ | refine brW ff ?_ ?_) <;> intro h <;> try (exfalso; first | omega | contradiction)))
  | true =>
  rw [hso] at hs
  rw [if_neg (by simp)]
  cases hfn : findN n l with
  | none =>
    rw [hfn] at hr
    rw [hL] at hr ⊢
    unfold ndV styleV at *
    refine en Tryz.func6 Tryz.ntmps6 ?_
    have ff := (Tryz.results6)
    repeat any_goals (first | refine stW ?_ | exact lfW ff | refine ruW ff ?_ | refine caW ff (hv) ?_ | refine caW ff (hs) ?_ | refine caW ff (hr) ?_ | refine cdW ff ?_ | ((first | refine bdW ff ?_ ?_ | refine bxW ff ?_ ?_ | refine bnW ff ?_ ?_ | refine brW ff ?_ ?_) <;> intro h <;> try (exfalso; first | omega | contradiction)))
  | some m =>
    rw [hfn] at hr
    obtain ⟨R, hR⟩ : ∃ R, styleN n l s = R := ⟨_, rfl⟩
    simp only at hr ⊢
    rw [hR]
    unfold ndV styleV at *
    refine en Tryz.func6 Tryz.ntmps6 ?_
    have ff := (Tryz.results6)
    repeat any_goals (first | refine stW ?_ | exact lfW ff | refine ruW ff ?_ | refine caW ff (hv) ?_ | refine caW ff (hs) ?_ | refine caW ff (hr) ?_ | refine cdW ff ?_ | ((first | refine bdW ff ?_ ?_ | refine bxW ff ?_ ?_ | refine bnW ff ?_ ?_ | refine brW ff ?_ ?_) <;> intro h <;> try (exfalso; first | omega | contradiction)))
    have hrow : rowOk n := by
      unfold Nd.validB at hvb
      simp only [Bool.and_eq_true, decide_eq_true_eq] at hvb
      exact ⟨hvb.1, hvb.2.1, hok⟩
    have hbit : ∃ x, findN n l = some x := ⟨m, hfn⟩
    clear hr hv hs hL L
    unfold intsC
    refine lp (ι := { p : Nd × List Int × Style // p.2.1.length ≤ 1000000 ∧ (∃ x, findN p.1 p.2.1 = some x) ∧ styleN p.1 p.2.1 p.2.2 = R ∧ rowOk p.1 ∧ p.2.2.ok = true }) (fun p => [(1, .c (.sl (p.1.2.1.map fun n => [.int .i64 n])))]) (fun p => [.box 24 p.1.1.vs false, .box 27 [.c (.int .i64 p.1.2.2.level), .c (.bool p.1.2.2.cramped)] false, .box 27 [.c (.int .i64 0), .c (.bool false)] false, .box 24 m.vs false]) (fun p => p.1.2.1.length) ⟨(n, l, s), hl, hbit, hR, hrow, hso⟩ ?_ ?_
    all_goals simp only [puts, List.foldl_cons, List.foldl_nil, List.set_cons_zero, List.set_cons_succ]
    · exact wd 4
    rintro ⟨⟨n, l, s⟩, hl, ⟨x, hx⟩, hR, hrow, hso⟩
    simp only at hl hx hR hrow hso ⊢
    match l, hl, hx, hR with
    | [], hl, hx, hR =>
      simp only [styleN] at hR
      subst hR
      have ff := (Tryz.results6)
      repeat any_goals (first | refine stW ?_ | exact lfW ff | refine ruW ff ?_ | refine cdW ff ?_ | ((first | refine bdW ff ?_ ?_ | refine bxW ff ?_ ?_ | refine bnW ff ?_ ?_ | refine brW ff ?_ ?_) <;> intro h <;> try (exfalso; first | omega | contradiction)))
    | [i], hl, hx, hR => simp [findN] at hx
    | i :: j :: r, hl, hx, hR =>
      simp only [findN] at hx
      simp only [styleN] at hR
      have h2 : (0 : Int) < (r.length : Int) + 1 + 1 := by omega
      cases hm : kidN n i with
      | none => rw [hm] at hx; simp at hx
      | some m' =>
        rw [hm] at hx hR
        simp only at hx hR
        cases hq : kidN m' j with
        | none => rw [hq] at hx; simp at hx
        | some q =>
          rw [hq] at hx hR
          simp only at hx hR
          obtain ⟨hrow', hslot⟩ := row_step hrow hm hq s hso
          have hso' := slotS_ok (k := m'.kind) (i := j) hso
          have hsl := pslot_a m'.kind j s
          rw [hslot] at hsl
          obtain ⟨S', hS'⟩ : ∃ S', slotS m'.kind j s = S' := ⟨_, rfl⟩
          rw [hS'] at hsl hso' hR
          unfold styEV styleV errV at hsl
          simp only at hsl
          obtain ⟨a, rfl, ha, hra, _⟩ := kid_some hm
          obtain ⟨b, rfl, hb, hrb, _⟩ := kid_some hq
          have hra' := gx hra
          have hrb' := gx hrb
          have hnl := nrows_len n.kids
          have hml := nrows_len m'.kids
          have ha0 : ¬ ((a : Int) < 0) := by omega
          have hb0 : ¬ ((b : Int) < 0) := by omega
          have h22 : (2 : Int) ≤ (r.length : Int) + 1 + 1 := by omega
          have ff := (cj @h2 <| cj @h22 <| cj @hra <| cj @hra' <| cj @hrb <| cj @hrb' <| cj @hnl <| cj @hml <| cj @ha <| cj @hb <| cj @ha0 <| cj @hb0 <| Tryz.results6)
          repeat any_goals (first | refine stW ?_ | exact lfW ff | refine ruW ff ?_ | refine caW ff (hsl) ?_ | refine cdW ff ?_ | ((first | refine bdW ff ?_ ?_ | refine bxW ff ?_ ?_ | refine bnW ff ?_ ?_ | refine brW ff ?_ ?_) <;> intro h <;> try (exfalso; first | omega | contradiction)))
          rw [cut2 a b r]
          refine ⟨⟨(q, r, S'), by simp only [List.length_cons] at hl; show r.length ≤ 1000000; omega, ⟨x, hx⟩, hR, hrow', hso'⟩, by simp only [List.length_cons]; show r.length < _; omega, ?_⟩
          exact wd 4
end Go.Proofs.YteacdpklcopedaaGreat
