/-
  Layer 43's laws on the abstract machine.
-/
import Derived.Test.YtmlabapfjliaeaaPq
import Derived.Test.YtmlabapfjliaeaaPr
namespace Go.Proofs.Ytmlabapfjliaeaa
open Go.RowKit
set_option linter.unusedSimpArgs false
set_option linter.unusedVariables false
set_option maxRecDepth 100000

theorem lsame_a (L : List Int) (hl : L.length ≤ 1000000) : AC Try.prog 10 [.c (intsC L), .c (intsC L)] (.c (.bool true)) := by
  obtain ⟨rs, hrs⟩ : ∃ rs, L.map iRow = rs := ⟨_, rfl⟩
  have hrl : rs.length = L.length := by rw [← hrs, List.length_map]
  rw [intsC_eq, hrs]
  refine en Try.func10 Try.ntmps10 ?_
  have ff := (cj @hrl <| Try.results10)
  repeat any_goals (first | refine stW ?_ | exact lfW ff | refine ruW ff ?_ | refine cdW ff ?_ | ((first | refine bdW ff ?_ ?_ | refine bxW ff ?_ ?_ | refine bnW ff ?_ ?_ | refine brW ff ?_ ?_) <;> intro h <;> try (exfalso; first | omega | contradiction)))
  refine lp (ι := { k : Nat // k ≤ L.length }) (fun k => [(4, .c (.bool false)), (5, .c (.int .i64 (k.1 : Int)))]) (fun _ => []) (fun k => L.length - k.1) ⟨0, by simp⟩ ?_ ?_
  all_goals simp only [puts, List.foldl_cons, List.foldl_nil, List.set_cons_zero, List.set_cons_succ]
  · refine Le.weak (by simp [subT])
  · rintro ⟨k, hk⟩
    simp only
    by_cases hlt : k < L.length
    · obtain ⟨c, hc⟩ : ∃ c, L[k]? = some c := ⟨_, List.getElem?_eq_getElem hlt⟩
      have hrk : rs[k]? = some [.int .i64 c] := by rw [← hrs, List.getElem?_map, hc]; rfl
      have hltr : k < rs.length := by omega
      have hrk' := gx hrk
      have ff := (cj @hrl <| cj @hlt <| cj @hltr <| cj @hrk <| cj @hrk' <| Try.results10)
      repeat any_goals (first | refine stW ?_ | exact lfW ff | refine ruW ff ?_ | refine cdW ff ?_ | ((first | refine bdW ff ?_ ?_ | refine bxW ff ?_ ?_ | refine bnW ff ?_ ?_ | refine brW ff ?_ ?_) <;> intro h <;> try (exfalso; first | omega | contradiction)))
      exact ⟨⟨k + 1, by omega⟩, by simp only; omega, wd 0⟩
    · have ff := (cj @hrl <| cj @hlt <| Try.results10)
      repeat any_goals (first | refine stW ?_ | exact lfW ff | refine ruW ff ?_ | refine cdW ff ?_ | ((first | refine bdW ff ?_ ?_ | refine bxW ff ?_ ?_ | refine bnW ff ?_ ?_ | refine brW ff ?_ ?_) <;> intro h <;> try (exfalso; first | omega | contradiction)))
theorem tw_app {α : Type} {p : α → Bool} : ∀ {a b : List α}, (∀ x ∈ a, p x = true) → (a ++ b).takeWhile p = a ++ b.takeWhile p
  | [], b, _ => rfl
  | x :: a, b, h => by rw [List.cons_append, List.takeWhile_cons, h x List.mem_cons_self, if_pos rfl, tw_app fun y hy => h y (List.mem_cons_of_mem _ hy)]; rfl
theorem bel_all {L : List Int} {m : Int} (h : ∀ (i : Nat) (x : Int), L[i]? = some x → x < m) : belI L m = L := by
  have := tw_app (p := fun x => decide (x < m)) (a := L) (b := []) (fun x hx => by
    obtain ⟨i, hi⟩ := List.getElem?_of_mem hx
    simpa using h i x hi)
  rw [List.append_nil] at this
  unfold belI
  rw [this]
  simp
theorem bel_take {L : List Int} {m : Int} {k : Nat} {x : Int} (h : ∀ (i : Nat) (x : Int), i < k → L[i]? = some x → x < m) (hk : L[k]? = some x) (hx : ¬ x < m) : belI L m = L.take k := by
  have hlt : k < L.length := (List.getElem?_eq_some_iff.1 hk).1
  have e : L.take k ++ x :: L.drop (k + 1) = L := by
    rw [← gx hk hlt, ← List.drop_eq_getElem_cons hlt, List.take_append_drop]
  have ht := tw_app (p := fun x => decide (x < m)) (a := L.take k) (b := x :: L.drop (k + 1)) (fun y hy => by
    obtain ⟨i, hi⟩ := List.getElem?_of_mem hy
    rw [List.getElem?_take] at hi
    split at hi
    · simpa using h i y (by assumption) hi
    · cases hi)
  rw [e] at ht
  unfold belI
  rw [ht, List.takeWhile_cons, if_neg (by simpa using hx), List.append_nil]
theorem lbelow_a (L : List Int) (m : Int) (hl : L.length ≤ 1000000) : AC Try.prog 13 [.c (intsC L), .c (.int .i64 m)] (.c (intsC (belI L m))) := by
  obtain ⟨rs, hrs⟩ : ∃ rs, L.map iRow = rs := ⟨_, rfl⟩
  have hrl : rs.length = L.length := by rw [← hrs, List.length_map]
  have hall := iRow_all L
  obtain ⟨R, hR⟩ : ∃ R, intsC (belI L m) = R := ⟨_, rfl⟩
  rw [hR, intsC_eq, hrs]
  rw [hrs] at hall
  refine en Try.func13 Try.ntmps13 ?_
  have ff := (cj @hrl <| Try.results13)
  repeat any_goals (first | refine stW ?_ | exact lfW ff | refine ruW ff ?_ | refine cdW ff ?_ | ((first | refine bdW ff ?_ ?_ | refine bxW ff ?_ ?_ | refine bnW ff ?_ ?_ | refine brW ff ?_ ?_) <;> intro h <;> try (exfalso; first | omega | contradiction)))
  refine lp (ι := { k : Nat // k ≤ L.length ∧ ∀ (i : Nat) (x : Int), i < k → L[i]? = some x → x < m }) (fun k => [(5, .c (.int .i64 (k.1 : Int)))]) (fun _ => []) (fun k => L.length - k.1) ⟨0, by simp⟩ ?_ ?_
  all_goals simp only [puts, List.foldl_cons, List.foldl_nil, List.set_cons_zero, List.set_cons_succ]
  · refine Le.weak (by simp [subT])
  · rintro ⟨k, hk, hI⟩
    simp only
    by_cases hlt : k < L.length
    · obtain ⟨c, hc⟩ : ∃ c, L[k]? = some c := ⟨_, List.getElem?_eq_getElem hlt⟩
      have hrk : rs[k]? = some [.int .i64 c] := by rw [← hrs, List.getElem?_map, hc]; rfl
      have hltr : k < rs.length := by omega
      have hrk' := gx hrk
      by_cases hcm : c < m
      · have hcm' : ¬ m ≤ c := by omega
        have ff := (cj @hrl <| cj @hlt <| cj @hltr <| cj @hrk <| cj @hrk' <| cj @hcm' <| Try.results13)
        repeat any_goals (first | refine stW ?_ | exact lfW ff | refine ruW ff ?_ | refine cdW ff ?_ | ((first | refine bdW ff ?_ ?_ | refine bxW ff ?_ ?_ | refine bnW ff ?_ ?_ | refine brW ff ?_ ?_) <;> intro h <;> try (exfalso; first | omega | contradiction)))
        refine ⟨⟨k + 1, by omega, fun i x hi hx => ?_⟩, by simp only; omega, wd 0⟩
        by_cases e : i = k
        · subst e; rw [hc] at hx; cases hx; exact hcm
        · exact hI i x (by omega) hx
      · have hcm' : m ≤ c := by omega
        have hRk : R = .sl (rs.take k) := by rw [← hR, bel_take hI hc hcm, intsC_eq, List.map_take, hrs]
        have hkl : k ≤ L.length := hk
        have ff := (cj @hrl <| cj @hlt <| cj @hltr <| cj @hrk <| cj @hrk' <| cj @hcm' <| cj @hRk <| cj @hall <| cj @hkl <| Try.results13)
        repeat any_goals (first | refine stW ?_ | exact lfW ff | refine ruW ff ?_ | refine cdW ff ?_ | ((first | refine bdW ff ?_ ?_ | refine bxW ff ?_ ?_ | refine bnW ff ?_ ?_ | refine brW ff ?_ ?_) <;> intro h <;> try (exfalso; first | omega | contradiction)))
    · have hRk : R = .sl rs := by rw [← hR, bel_all (fun i x hx => hI i x (by have := (List.getElem?_eq_some_iff.1 hx).1; omega) hx), intsC_eq, hrs]
      have ff := (cj @hrl <| cj @hlt <| cj @hRk <| Try.results13)
      repeat any_goals (first | refine stW ?_ | exact lfW ff | refine ruW ff ?_ | refine cdW ff ?_ | ((first | refine bdW ff ?_ ?_ | refine bxW ff ?_ ?_ | refine bnW ff ?_ ?_ | refine brW ff ?_ ?_) <;> intro h <;> try (exfalso; first | omega | contradiction)))
/-! awake -/
def symA : Nd := ⟨2, ⟨#[97]⟩, 0, []⟩
def symP : Nd := ⟨2, ⟨#[43]⟩, 0, []⟩
def awD : List En := [⟨⟨#[43]⟩, 2, false, false⟩]
theorem aw_plc : plcR awD [symA, symP, symA] = ([0, 1], 0) := by
  have h1 : dictB awD = true := by decide +kernel
  have h2 : (rowN [symA, symP, symA]).validB = true := by decide +kernel
  have c1 : clsN awD symA = 0 := by rw [clsN_eq]; decide +kernel
  have c2 : clsN awD symP = 2 := by rw [clsN_eq]; decide +kernel
  have e : ownC awD [symA, symP, symA] = [0, 2, 0] := by simp [ownC, c1, c2]
  have ec : clsR awD [symA, symP, symA] = (rowC [0, 2, 0], 0) := by unfold clsR; rw [if_neg (by rw [h1, h2]; simp), e]
  unfold plcR
  rw [ec]
  decide +kernel
theorem lawake_a : AC Try.prog 6 [] (.c (.bool true)) := by
  have hp := pPlaces_a awD [symA, symP, symA] (by decide) (by decide +kernel) ⟨by decide, by decide, ⟨by decide, by decide, trivial⟩, ⟨by decide, by decide, trivial⟩, ⟨by decide, by decide, trivial⟩, trivial⟩ (by decide +kernel)
  rw [aw_plc] at hp
  have hs := lsame_a [0, 1] (by decide)
  have e1 : ensC awD = .sl [[.str ⟨#[43]⟩, .int .i64 2, .bool false, .bool false]] := rfl
  have e2 : Nd.rows [symA, symP, symA] = [[.int .i64 2, .str ⟨#[97]⟩, .int .i64 0, .sl []], [.int .i64 2, .str ⟨#[43]⟩, .int .i64 0, .sl []], [.int .i64 2, .str ⟨#[97]⟩, .int .i64 0, .sl []]] := rfl
  have e3 : intsC [0, 1] = .sl [[.int .i64 0], [.int .i64 1]] := rfl
  unfold liV errV at hp
  rw [e1, e2, e3] at hp
  rw [e3] at hs
  clear e1 e2 e3
  refine en Try.func6 Try.ntmps6 ?_
  have ff := (Try.results6)
  repeat any_goals (first | refine stW ?_ | exact lfW ff | refine ruW ff ?_ | refine caW ff (hp) ?_ | refine caW ff (hs) ?_ | refine cdW ff ?_ | ((first | refine bdW ff ?_ ?_ | refine bxW ff ?_ ?_ | refine bnW ff ?_ ?_ | refine brW ff ?_ ?_) <;> intro h <;> try (exfalso; first | omega | contradiction)))
set_option maxHeartbeats 1600000 in
theorem lplaces_a (d : List En) (l : List Nd) (hd : d.length ≤ maxLen) (hs : ∀ e ∈ d, e.text.size ≤ maxLen) (hok : (rowN l).okk) : AC Try.prog 3 [.c (ensC d), .c (.sl (Nd.rows l))] (.c (.bool true)) := by
  have ha := lawake_a
  have hfw := rfew26_a l 300 hok (by decide) (by decide)
  unfold maxLen at hd
  have e1 : ensC d = .sl (d.map En.row) := rfl
  have hdl : (d.map En.row).length = d.length := List.length_map ..
  by_cases h3 : d.length ≤ 300
  · have h3' : ¬ (300 : Int) < (d.length : Int) := by omega
    by_cases hf : (rowN l).cnt ≤ 300
    · rw [decide_eq_true (by omega)] at hfw
      have hp := pPlaces_a d l (by omega) hs hok (by omega)
      have hr := rPlaces_a d l (by omega) hs hok (by omega)
      have hsm := lsame_a (plcR d l).1 (by
        have := ncnts_len l
        have h2 := lcnt_row l
        unfold plcR
        split
        · simp
        · split
          · simp
          · have := plcs_len (clsR d l).1 l.length
            simp only
            omega)
      unfold liV errV at hp hr
      obtain ⟨L, hL⟩ : ∃ L, intsC (plcR d l).1 = L := ⟨_, rfl⟩
      obtain ⟨e, he⟩ : ∃ e, (plcR d l).2 = e := ⟨_, rfl⟩
      rw [hL, he] at hp hr
      rw [hL] at hsm
      rw [e1] at hp hr ⊢
      clear hL he
      refine en Try.func3 Try.ntmps3 ?_
      have ff := (cj @hdl <| cj @h3' <| Try.results3)
      repeat any_goals (first | refine stW ?_ | exact lfW ff | refine ruW ff ?_ | refine caW ff (ha) ?_ | refine caW ff (hfw) ?_ | refine caW ff (hp) ?_ | refine caW ff (hr) ?_ | refine caW ff (hsm) ?_ | refine cdW ff ?_ | ((first | refine bdW ff ?_ ?_ | refine bxW ff ?_ ?_ | refine bnW ff ?_ ?_ | refine brW ff ?_ ?_) <;> intro h <;> try (exfalso; first | omega | contradiction)))
    · rw [decide_eq_false (by omega)] at hfw
      rw [e1]
      refine en Try.func3 Try.ntmps3 ?_
      have ff := (cj @hdl <| cj @h3' <| Try.results3)
      repeat any_goals (first | refine stW ?_ | exact lfW ff | refine ruW ff ?_ | refine caW ff (ha) ?_ | refine caW ff (hfw) ?_ | refine cdW ff ?_ | ((first | refine bdW ff ?_ ?_ | refine bxW ff ?_ ?_ | refine bnW ff ?_ ?_ | refine brW ff ?_ ?_) <;> intro h <;> try (exfalso; first | omega | contradiction)))
  · have h3' : (300 : Int) < (d.length : Int) := by omega
    rw [e1]
    refine en Try.func3 Try.ntmps3 ?_
    have ff := (cj @hdl <| cj @h3' <| Try.results3)
    repeat any_goals (first | refine stW ?_ | exact lfW ff | refine ruW ff ?_ | refine caW ff (ha) ?_ | refine cdW ff ?_ | ((first | refine bdW ff ?_ ?_ | refine bxW ff ?_ ?_ | refine bnW ff ?_ ?_ | refine brW ff ?_ ?_) <;> intro h <;> try (exfalso; first | omega | contradiction)))
end Go.Proofs.Ytmlabapfjliaeaa
