/-
  Layer 43's laws on the abstract machine: the first items of a beginning.
-/
import Derived.Test.YtmlabapfjliaeaaPs
namespace Go.Proofs.Ytmlabapfjliaeaa
open Go.RowKit
set_option linter.unusedSimpArgs false
set_option linter.unusedVariables false
set_option maxRecDepth 100000

theorem nrows_take (l : List Nd) (k : Nat) : (Nd.rows l).take k = Nd.rows (l.take k) := by rw [nrows_map, nrows_map, List.map_take]
theorem nrows_all (l : List Nd) : ((Nd.rows l).all fun r => r.length == 4) = true := by
  rw [nrows_map, List.all_eq_true]
  intro r hr
  obtain ⟨b, _, rfl⟩ := List.mem_map.1 hr
  simp
theorem plcR_2 {d : List En} {l : List Nd} (hd : dictB d = true) (hv : (rowN l).validB = true) (h0 : ¬ l.length = 0) : (plcR d l).2 = 0 := by
  have c1 : clsR d l = (rowC (ownC d l), 0) := by unfold clsR; rw [if_neg (by rw [hd, hv]; simp)]
  unfold plcR
  rw [c1, if_neg (by simp), if_neg h0]
theorem plcR_1 {d : List En} {l : List Nd} (hd : dictB d = false) : plcR d l = ([], 1) := by
  have c1 : clsR d l = ([], 1) := by unfold clsR; rw [if_pos (.inl hd)]
  unfold plcR
  rw [c1, if_pos (by simp)]
theorem plcR_len (d : List En) (l : List Nd) : (plcR d l).1.length ≤ l.length + 1 := by
  unfold plcR
  split
  · simp
  · split
    · simp
    · exact plcs_len _ _
theorem bel_len (L : List Int) (m : Int) : (belI L m).length ≤ L.length := by
  unfold belI
  exact (List.takeWhile_prefix _).length_le
set_option maxHeartbeats 6400000 in
theorem lbegins_a (d : List En) (l : List Nd) (a : Int) (hd : d.length ≤ maxLen) (hs : ∀ e ∈ d, e.text.size ≤ maxLen) (hok : (rowN l).okk) (ha1 : 0 ≤ a ∧ a ≤ 255) : AC Try.prog 5 [.c (ensC d), .c (.sl (Nd.rows l)), .c (.int .u8 a)] (.c (.bool true)) := by
  have ha := lawake_a
  have hfw := rfew26_a l 300 hok (by decide) (by decide)
  unfold maxLen at hd
  have e1 : ensC d = .sl (d.map En.row) := rfl
  have hdl : (d.map En.row).length = d.length := List.length_map ..
  by_cases h3 : d.length ≤ 300
  case neg =>
    have h3' : (300 : Int) < (d.length : Int) := by omega
    rw [e1]
    refine en Try.func5 Try.ntmps5 ?_
    have ff := (cj @hdl <| cj @h3' <| Try.results5)
    repeat any_goals (first | refine stW ?_ | exact lfW ff | refine ruW ff ?_ | refine caW ff (ha) ?_ | refine cdW ff ?_ | ((first | refine bdW ff ?_ ?_ | refine bxW ff ?_ ?_ | refine bnW ff ?_ ?_ | refine brW ff ?_ ?_) <;> intro h <;> try (exfalso; first | omega | contradiction)))
  have h3' : ¬ (300 : Int) < (d.length : Int) := by omega
  by_cases hf : (rowN l).cnt ≤ 300
  case neg =>
    rw [decide_eq_false (by omega)] at hfw
    rw [e1]
    refine en Try.func5 Try.ntmps5 ?_
    have ff := (cj @hdl <| cj @h3' <| Try.results5)
    repeat any_goals (first | refine stW ?_ | exact lfW ff | refine ruW ff ?_ | refine caW ff (ha) ?_ | refine caW ff (hfw) ?_ | refine cdW ff ?_ | ((first | refine bdW ff ?_ ?_ | refine bxW ff ?_ ?_ | refine bnW ff ?_ ?_ | refine brW ff ?_ ?_) <;> intro h <;> try (exfalso; first | omega | contradiction)))
  rw [decide_eq_true (by omega)] at hfw
  have hvi := rvalidItems_a l hok (by omega)
  cases hv : (rowN l).validB with
  | false =>
    rw [hv] at hvi
    rw [e1]
    refine en Try.func5 Try.ntmps5 ?_
    have ff := (cj @hdl <| cj @h3' <| Try.results5)
    repeat any_goals (first | refine stW ?_ | exact lfW ff | refine ruW ff ?_ | refine caW ff (ha) ?_ | refine caW ff (hfw) ?_ | refine caW ff (hvi) ?_ | refine cdW ff ?_ | ((first | refine bdW ff ?_ ?_ | refine bxW ff ?_ ?_ | refine bnW ff ?_ ?_ | refine brW ff ?_ ?_) <;> intro h <;> try (exfalso; first | omega | contradiction)))
  | true =>
  rw [hv] at hvi
  have hnl := ncnts_len l
  have hnr := lcnt_row l
  obtain ⟨n, hn⟩ : ∃ n, l.length = n := ⟨_, rfl⟩
  have hrl : (Nd.rows l).length = n := by rw [nrows_len, hn]
  by_cases h0 : n = 0
  · have hr0 : ((Nd.rows l).length : Int) = 0 := by omega
    subst h0
    rw [e1]
    obtain ⟨rs, hrs⟩ : ∃ rs, Nd.rows l = rs := ⟨_, rfl⟩
    rw [hrs] at hfw hvi hrl hr0 ⊢
    refine en Try.func5 Try.ntmps5 ?_
    have ff := (cj @hdl <| cj @h3' <| cj @hrl <| cj @hr0 <| Try.results5)
    repeat any_goals (first | refine stW ?_ | exact lfW ff | refine ruW ff ?_ | refine caW ff (ha) ?_ | refine caW ff (hfw) ?_ | refine caW ff (hvi) ?_ | refine cdW ff ?_ | ((first | refine bdW ff ?_ ?_ | refine bxW ff ?_ ?_ | refine bnW ff ?_ ?_ | refine brW ff ?_ ?_) <;> intro h <;> try (exfalso; first | omega | contradiction)))
  have h0' : ¬ (n : Int) = 0 := by omega
  obtain ⟨q, hq⟩ : ∃ q : Nat, a.tmod (n : Int) = (q : Int) := by
    have h1 := Int.tmod_nonneg (n : Int) ha1.1
    exact ⟨(a.tmod (n : Int)).toNat, by omega⟩
  have hqn : q < n := by have := Int.tmod_lt_of_pos a (show (0 : Int) < (n : Int) by omega); omega
  have wa : IntKind.i64.wrap a = a := wrap_i64 (by omega) (by omega)
  have wq : IntKind.i64.wrap (a.tmod (n : Int)) = (q : Int) := by rw [hq]; exact wrap_i64 (by omega) (by omega)
  obtain ⟨K, hK⟩ : ∃ K : Int, 1 + (q : Int) = K := ⟨_, rfl⟩
  have wk : IntKind.i64.wrap (1 + (q : Int)) = K := by rw [hK]; exact wrap_i64 (by omega) (by omega)
  have wk1 : IntKind.i64.wrap (K - 1) = (q : Int) := by rw [wrap_i64 (by omega) (by omega)]; omega
  have hK0 : (0 : Int) ≤ K := by omega
  have hKn : K ≤ (n : Int) := by omega
  have hKt : K.toNat = q + 1 := by omega
  have hok2 := okk_take l (q + 1) hok
  have hv2 := valid_take l (q + 1) hv
  have hl2 : (l.take (q + 1)).length = q + 1 := by rw [List.length_take]; omega
  have hc2 : (rowN (l.take (q + 1))).cnt ≤ 1000 := by
    rw [lcnt_row]
    have := ncnts_tle l (q + 1)
    omega
  have htk := nrows_take l (q + 1)
  have hall := nrows_all l
  have hp1 := pPlaces_a d l (by omega) hs hok (by omega)
  have hp2 := pPlaces_a d (l.take (q + 1)) (by omega) hs hok2 (by omega)
  obtain ⟨rs, hrs⟩ : ∃ rs, Nd.rows l = rs := ⟨_, rfl⟩
  obtain ⟨rs2, hrs2⟩ : ∃ rs, Nd.rows (l.take (q + 1)) = rs := ⟨_, rfl⟩
  rw [hrs] at hfw hvi hrl htk hall hp1 ⊢
  rw [hrs2] at htk hp2
  unfold liV errV at hp1 hp2
  have hlA := plcR_len d l
  have hlB := plcR_len d (l.take (q + 1))
  have hbe := begins_eq d l q (by omega) hv
  clear hrs hrs2 hK
  cases hdv : dictB d with
  | false =>
    rw [plcR_1 hdv] at hp1 hp2
    simp only at hp1 hp2
    have hz : intsC [] = .sl [] := rfl
    rw [hz] at hp1 hp2
    rw [e1] at hp1 hp2 ⊢
    refine en Try.func5 Try.ntmps5 ?_
    have ff := (cj @hdl <| cj @h3' <| cj @hrl <| cj @h0' <| cj @wa <| cj @wq <| cj @wk <| cj @hK0 <| cj @hKn <| cj @hKt <| cj @htk <| cj @hall <| Try.results5)
    repeat any_goals (first | refine stW ?_ | exact lfW ff | refine ruW ff ?_ | refine caW ff (ha) ?_ | refine caW ff (hfw) ?_ | refine caW ff (hvi) ?_ | refine caW ff (hp1) ?_ | refine caW ff (hp2) ?_ | refine cdW ff ?_ | ((first | refine bdW ff ?_ ?_ | refine bxW ff ?_ ?_ | refine bnW ff ?_ ?_ | refine brW ff ?_ ?_) <;> intro h <;> try (exfalso; first | omega | contradiction)))
  | true =>
    rw [plcR_2 hdv hv (by omega)] at hp1
    rw [plcR_2 hdv hv2 (by omega)] at hp2
    have hbe2 := hbe hdv
    obtain ⟨A, hA⟩ : ∃ A, (plcR d l).1 = A := ⟨_, rfl⟩
    obtain ⟨B, hB⟩ : ∃ A, (plcR d (l.take (q + 1))).1 = A := ⟨_, rfl⟩
    rw [hA] at hp1 hbe2 hlA
    rw [hB] at hp2 hbe2 hlB
    have b1 := lbelow_a A (q : Int) (by omega)
    have b2 := lbelow_a B (q : Int) (by omega)
    rw [← hbe2] at b2
    have hbl := bel_len A (q : Int)
    have hsm := lsame_a (belI A (q : Int)) (by omega)
    obtain ⟨T, hT⟩ : ∃ T, intsC (belI A (q : Int)) = T := ⟨_, rfl⟩
    rw [hT] at b1 b2 hsm
    obtain ⟨VA, hVA⟩ : ∃ T, intsC A = T := ⟨_, rfl⟩
    obtain ⟨VB, hVB⟩ : ∃ T, intsC B = T := ⟨_, rfl⟩
    rw [hVA] at hp1 b1
    rw [hVB] at hp2 b2
    rw [e1] at hp1 hp2 ⊢
    clear hT hVA hVB hA hB hbe hbe2
    refine en Try.func5 Try.ntmps5 ?_
    have ff := (cj @hdl <| cj @h3' <| cj @hrl <| cj @h0' <| cj @wa <| cj @wq <| cj @wk <| cj @wk1 <| cj @hK0 <| cj @hKn <| cj @hKt <| cj @htk <| cj @hall <| Try.results5)
    repeat any_goals (first | refine stW ?_ | exact lfW ff | refine ruW ff ?_ | refine caW ff (ha) ?_ | refine caW ff (hfw) ?_ | refine caW ff (hvi) ?_ | refine caW ff (hp1) ?_ | refine caW ff (hp2) ?_ | refine caW ff (b1) ?_ | refine caW ff (b2) ?_ | refine caW ff (hsm) ?_ | refine cdW ff ?_ | ((first | refine bdW ff ?_ ?_ | refine bxW ff ?_ ?_ | refine bnW ff ?_ ?_ | refine brW ff ?_ ?_) <;> intro h <;> try (exfalso; first | omega | contradiction)))
end Go.Proofs.Ytmlabapfjliaeaa
