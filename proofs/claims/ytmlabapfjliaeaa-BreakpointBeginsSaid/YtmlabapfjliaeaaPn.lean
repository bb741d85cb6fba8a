/-
  Classes of a row (layer 26) on the abstract machine: the program's rule, and the classes of items on both sides.
-/
import Derived.Test.YtmlabapfjliaeaaPj
import Derived.Test.YtmlabapfjliaeaaPl
import Derived.Test.YtmlabapfjliaeaaPh
namespace Go.Proofs.Ytmlabapfjliaeaa
open Go.RowKit
set_option linter.unusedSimpArgs false
set_option linter.unusedVariables false
set_option maxRecDepth 100000

def ownC (d : List En) (l : List Nd) : List Int := l.map (clsN d)
theorem ownC_len (d : List En) (l : List Nd) : (ownC d l).length = l.length := by simp [ownC]
def zndC : List V := [.c (.int .i64 0), .c (.str ⟨#[]⟩), .c (.int .i64 0), .full []]
set_option maxHeartbeats 6400000 in
theorem pclasses_a (d : List En) (l : List Nd) (hd : d.length ≤ 1000000) (hl : l.length ≤ 1000000) (hok : Nd.okks l) : AC Try.prog 25 [.c (ensC d), .c (.sl (Nd.rows l))] (.c (intsC (rowC (ownC d l)))) := by
  obtain ⟨rs, hrs⟩ : ∃ rs, Nd.rows l = rs := ⟨_, rfl⟩
  have hrl : rs.length = l.length := by rw [← hrs]; exact nrows_len l
  obtain ⟨own, hown⟩ : ∃ own, ownC d l = own := ⟨_, rfl⟩
  obtain ⟨n, hn⟩ : ∃ n, l.length = n := ⟨_, rfl⟩
  have hon : own.length = n := by rw [← hown, ownC_len, hn]
  have hcls := pclass_a d hd
  rw [hrs, hown]
  rw [hn] at hrl hl
  refine en Try.func25 Try.ntmps25 ?_
  have ff := (cj @hrl <| Try.results25)
  repeat any_goals (first | refine stW ?_ | exact lfW ff | refine ruW ff ?_ | refine cdW ff ?_ | ((first | refine bdW ff ?_ ?_ | refine bxW ff ?_ ?_ | refine bnW ff ?_ ?_ | refine brW ff ?_ ?_) <;> intro h <;> try (exfalso; first | omega | contradiction)))
  rw [show List.replicate n (V.c (C.int .i64 0)) = pints (List.replicate n 0) by simp [pints]]
  refine lp (ι := { k : Nat // k ≤ n }) (fun k => [(14, .c (.int .i64 (k.1 : Int)))]) (fun k => [.box 3 (pints (foldC (own.take k.1) ++ List.replicate (n - k.1) 0)) false]) (fun k => n - k.1) ⟨0, by simp⟩ ?_ ?_
  all_goals simp only [puts, List.foldl_cons, List.foldl_nil, List.set_cons_zero, List.set_cons_succ]
  · refine Le.weak (by simp [subT, foldC])
  · rintro ⟨k, hk⟩
    simp only
    by_cases hlt : k < n
    · obtain ⟨b, hb⟩ : ∃ b, l[k]? = some b := ⟨_, List.getElem?_eq_getElem (by omega)⟩
      have hrk : rs[k]? = some b.row := by rw [← hrs]; exact nrows_get hb
      have hltr : k < rs.length := by omega
      have hrk' := gx hrk
      have hca := hcls b (nokks_mem hok b (List.mem_of_getElem? hb))
      unfold ndV at hca
      obtain ⟨c, hc⟩ : ∃ c, clsN d b = c := ⟨_, rfl⟩
      rw [hc] at hca
      have hcc : own[k]? = some c := by rw [← hown]; unfold ownC; rw [List.getElem?_map, hb, ← hc]; rfl
      have hft := foldC_take hcc
      have hDl : (foldC (own.take k)).length = k := by rw [foldC_len, List.length_take]; omega
      obtain ⟨r, hr⟩ : ∃ r, n - (k + 1) = r := ⟨_, rfl⟩
      have hnk : n - k = r + 1 := by omega
      obtain ⟨D, hD⟩ : ∃ D, foldC (own.take k) = D := ⟨_, rfl⟩
      rw [hD] at hft hDl ⊢
      rw [hnk, List.replicate_succ]
      obtain ⟨Z, hZ⟩ : ∃ X, pints (D ++ 0 :: List.replicate r 0) = X := ⟨_, rfl⟩
      have hZl : Z.length = n := by rw [← hZ, pints_len]; simp; omega
      obtain ⟨X, hX⟩ : ∃ X, pints (D ++ c :: List.replicate r 0) = X := ⟨_, rfl⟩
      have hXl : X.length = n := by rw [← hX, pints_len]; simp; omega
      have z0 : Z.set k (.c (.int .i64 c)) = X := by rw [← hZ, pset hDl c, hX]
      have g0 : X[k]? = some (.c (.int .i64 c)) := by rw [← hX]; exact pget hDl
      have g0' := gx g0
      have s0 : X.set k (.c (.int .i64 0)) = pints ((D ++ [0]) ++ List.replicate r 0) := by rw [← hX, pset hDl 0, app1]
      have hkX : k + 1 ≤ n := by omega
      have hX0 := hX.symm
      have hg1 : ∀ j, D.length = j + 1 → Z[j]? = some (.c (.int .i64 (lastI D))) := fun j h => by rw [← hZ, lastI_succ h]; exact pget1 h
      rw [hZ]
      clear hX hZ hcls
      by_cases hc2 : c = 2
      · subst hc2
        cases k with
        | zero =>
          rw [stepC_2 rfl (.inl hDl)] at hft
          rw [← hft, ← hr] at s0
          have ff := (cj @hrl <| cj @hlt <| cj @hltr <| cj @hrk <| cj @hrk' <| cj @hZl <| cj @hXl <| cj @z0 <| cj @g0 <| cj @g0' <| cj @s0 <| cj @hkX <| Try.results25)
          repeat any_goals (first | refine stW ?_ | exact lfW ff | refine ruW ff ?_ | refine caW ff (hca) ?_ | refine cdW ff ?_ | ((first | refine bdW ff ?_ ?_ | refine bxW ff ?_ ?_ | refine bnW ff ?_ ?_ | refine brW ff ?_ ?_) <;> intro h <;> try (exfalso; first | omega | contradiction)))
          exact ⟨⟨0 + 1, by omega⟩, by simp only; omega, wd 1⟩
        | succ j =>
          have g1 : X[j]? = some (.c (.int .i64 (lastI D))) := by rw [← z0, List.getElem?_set_ne (by omega)]; exact hg1 j hDl
          have g1' := gx g1
          have hop := pbefore_a (lastI D)
          have hj : j < n := by omega
          have hji : (j : Int) + 1 < (n : Int) := by omega
          have hj1 : ¬ (j : Int) + 1 = 0 := by omega
          have hj2 : (0 : Int) ≤ (j : Int) + 1 := by omega
          cases ho : opensI (lastI D) with
          | true =>
            rw [stepC_2 rfl (.inr ho)] at hft
            rw [← hft, ← hr] at s0
            rw [ho] at hop
            have ff := (cj @hrl <| cj @hlt <| cj @hltr <| cj @hrk <| cj @hrk' <| cj @hZl <| cj @hXl <| cj @z0 <| cj @g0 <| cj @g0' <| cj @s0 <| cj @hkX <| cj @g1 <| cj @g1' <| cj @hj <| cj @hji <| cj @hj1 <| cj @hj2 <| Try.results25)
            repeat any_goals (first | refine stW ?_ | exact lfW ff | refine ruW ff ?_ | refine caW ff (hca) ?_ | refine caW ff (hop) ?_ | refine cdW ff ?_ | ((first | refine bdW ff ?_ ?_ | refine bxW ff ?_ ?_ | refine bnW ff ?_ ?_ | refine brW ff ?_ ?_) <;> intro h <;> try (exfalso; first | omega | contradiction)))
            exact ⟨⟨j + 1 + 1, by omega⟩, by simp only; omega, wd 1⟩
          | false =>
            rw [stepC_n (fun e => by rcases e.2 with e | e; omega; rw [ho] at e; cases e) (fun e => by rw [closes_2] at e; cases e.1)] at hft
            rw [ho] at hop
            have hXT : X = pints (foldC (own.take (j + 1 + 1)) ++ List.replicate (n - (j + 1 + 1)) 0) := by rw [hX0, hft, app1, hr]
            have ff := (cj @hrl <| cj @hlt <| cj @hltr <| cj @hrk <| cj @hrk' <| cj @hZl <| cj @hXl <| cj @z0 <| cj @g0 <| cj @g0' <| cj @hkX <| cj @g1 <| cj @g1' <| cj @hj <| cj @hji <| cj @hj1 <| cj @hj2 <| Try.results25)
            repeat any_goals (first | refine stW ?_ | exact lfW ff | refine ruW ff ?_ | refine caW ff (hca) ?_ | refine caW ff (hop) ?_ | refine cdW ff ?_ | ((first | refine bdW ff ?_ ?_ | refine bxW ff ?_ ?_ | refine bnW ff ?_ ?_ | refine brW ff ?_ ?_) <;> intro h <;> try (exfalso; first | omega | contradiction)))
            rw [hXT]
            exact ⟨⟨j + 1 + 1, by omega⟩, by simp only; omega, wd 1⟩
      · cases hcc2 : closesI c with
        | false =>
          rw [stepC_n (fun e => hc2 e.1) (fun e => by rw [hcc2] at e; cases e.1)] at hft
          simp [closesI] at hcc2
          have hXT : X = pints (foldC (own.take (k + 1)) ++ List.replicate (n - (k + 1)) 0) := by rw [hX0, hft, app1, hr]
          have ff := (cj @hrl <| cj @hlt <| cj @hltr <| cj @hrk <| cj @hrk' <| cj @hZl <| cj @hXl <| cj @z0 <| cj @g0 <| cj @g0' <| cj @hkX <| cj @hc2 <| cj (hcc2.1) <| cj (hcc2.2.1) <| cj (hcc2.2.2) <| Try.results25)
          repeat any_goals (first | refine stW ?_ | exact lfW ff | refine ruW ff ?_ | refine caW ff (hca) ?_ | refine cdW ff ?_ | ((first | refine bdW ff ?_ ?_ | refine bxW ff ?_ ?_ | refine bnW ff ?_ ?_ | refine brW ff ?_ ?_) <;> intro h <;> try (exfalso; first | omega | contradiction)))
          rw [hXT]
          exact ⟨⟨k + 1, by omega⟩, by simp only; omega, wd 1⟩
        | true =>
          have hc3 : c = 3 ∨ c = 5 ∨ c = 6 := by simpa [closesI] using hcc2
          cases k with
          | zero =>
            rw [stepC_n (fun e => hc2 e.1) (fun e => by have := e.2.1; omega)] at hft
            have hXT : X = pints (foldC (own.take (0 + 1)) ++ List.replicate (n - (0 + 1)) 0) := by rw [hX0, hft, app1, hr]
            have ff := (cj @hrl <| cj @hlt <| cj @hltr <| cj @hrk <| cj @hrk' <| cj @hZl <| cj @hXl <| cj @z0 <| cj @g0 <| cj @g0' <| cj @hkX <| cj @hc2 <| Try.results25)
            repeat any_goals (first | refine stW ?_ | exact lfW ff | refine ruW ff ?_ | refine caW ff (hca) ?_ | refine cdW ff ?_ | ((first | refine bdW ff ?_ ?_ | refine bxW ff ?_ ?_ | refine bnW ff ?_ ?_ | refine brW ff ?_ ?_) <;> intro h <;> try (exfalso; first | omega | contradiction)))
            all_goals (rw [hXT]; exact ⟨⟨0 + 1, by omega⟩, by simp only; omega, wd 1⟩)
          | succ j =>
            have g1 : X[j]? = some (.c (.int .i64 (lastI D))) := by rw [← z0, List.getElem?_set_ne (by omega)]; exact hg1 j hDl
            have g1' := gx g1
            have hj : j < n := by omega
            have hji : (j : Int) + 1 < (n : Int) := by omega
            have hj1 : (0 : Int) < (j : Int) + 1 := by omega
            have hj2 : (0 : Int) ≤ (j : Int) + 1 := by omega
            have hjX1 : j + 1 ≤ n := by omega
            by_cases hla : lastI D = 2
            · rw [stepC_c hc2 hcc2 (by omega) hla, hDl, show j + 1 - 1 = j by omega] at hft
              have s1 : X.set j (.c (.int .i64 0)) = pints (foldC (own.take (j + 1 + 1)) ++ List.replicate (n - (j + 1 + 1)) 0) := by rw [hX0, pset1 hDl 0, hft, app1, hr]
              have ff := (cj @hrl <| cj @hlt <| cj @hltr <| cj @hrk <| cj @hrk' <| cj @hZl <| cj @hXl <| cj @z0 <| cj @g0 <| cj @g0' <| cj @hkX <| cj @hc2 <| cj @g1 <| cj @g1' <| cj @hj <| cj @hji <| cj @hj1 <| cj @hj2 <| cj @hjX1 <| cj @hla <| cj @s1 <| Try.results25)
              repeat any_goals (first | refine stW ?_ | exact lfW ff | refine ruW ff ?_ | refine caW ff (hca) ?_ | refine cdW ff ?_ | ((first | refine bdW ff ?_ ?_ | refine bxW ff ?_ ?_ | refine bnW ff ?_ ?_ | refine brW ff ?_ ?_) <;> intro h <;> try (exfalso; first | omega | contradiction)))
              all_goals exact ⟨⟨j + 1 + 1, by omega⟩, by simp only; omega, wd 1⟩
            · rw [stepC_n (fun e => hc2 e.1) (fun e => hla e.2.2)] at hft
              have hXT : X = pints (foldC (own.take (j + 1 + 1)) ++ List.replicate (n - (j + 1 + 1)) 0) := by rw [hX0, hft, app1, hr]
              have ff := (cj @hrl <| cj @hlt <| cj @hltr <| cj @hrk <| cj @hrk' <| cj @hZl <| cj @hXl <| cj @z0 <| cj @g0 <| cj @g0' <| cj @hkX <| cj @hc2 <| cj @g1 <| cj @g1' <| cj @hj <| cj @hji <| cj @hj1 <| cj @hj2 <| cj @hla <| Try.results25)
              repeat any_goals (first | refine stW ?_ | exact lfW ff | refine ruW ff ?_ | refine caW ff (hca) ?_ | refine cdW ff ?_ | ((first | refine bdW ff ?_ ?_ | refine bxW ff ?_ ?_ | refine bnW ff ?_ ?_ | refine brW ff ?_ ?_) <;> intro h <;> try (exfalso; first | omega | contradiction)))
              all_goals (rw [hXT]; exact ⟨⟨j + 1 + 1, by omega⟩, by simp only; omega, wd 1⟩)
    · have e1 : own.take k = own := List.take_of_length_le (by omega)
      have ek : k = n := by omega
      have e2 : n - k = 0 := by omega
      rw [e1, e2]
      have hDl : (foldC own).length = n := by rw [foldC_len, hon]
      unfold rowC
      obtain ⟨D, hD⟩ : ∃ D, foldC own = D := ⟨_, rfl⟩
      rw [hD] at hDl ⊢
      rw [show List.replicate 0 (0 : Int) = [] from rfl, List.append_nil]
      subst ek
      cases k with
      | zero =>
        have hD0 : D = [] := List.eq_nil_of_length_eq_zero hDl
        subst hD0
        have hch := pchop [] []
        have ff := (cj @hrl <| cj @hlt <| Try.results25)
        repeat any_goals (first | refine stN (RegN.mk 19) ?_ | exact lfW ff | refine ruW ff ?_ | refine cdW ff ?_ | ((first | refine bdW ff ?_ ?_ | refine bxW ff ?_ ?_ | refine bnW ff ?_ ?_ | refine brW ff ?_ ?_) <;> intro h <;> try (exfalso; first | omega | contradiction)))
        refine AW.frz 0 rfl (pints_toCs _) (by simp only [V.frzs, V.frz, List.drop_zero, if_true]; exact rfl) (by simp only [List.set_cons_zero, List.map_cons, List.map_nil, O.frz, pints_frzs]; exact rfl) ?_
        have hz : intsC (finC []) = .sl [] := rfl
        rw [hz]
        have ff := (cj @chop.eq_1 <| cj @chop.eq_2 <| Try.results25)
        repeat any_goals (first | refine stW ?_ | exact lfW ff | refine ruW ff ?_ | refine cdW ff ?_ | ((first | refine bdW ff ?_ ?_ | refine bxW ff ?_ ?_ | refine bnW ff ?_ ?_ | refine brW ff ?_ ?_) <;> intro h <;> try (exfalso; first | omega | contradiction)))
      | succ p =>
        obtain ⟨X, hX⟩ : ∃ X, pints D = X := ⟨_, rfl⟩
        have hXl : X.length = p + 1 := by rw [← hX, pints_len, hDl]
        have g1 : X[p]? = some (.c (.int .i64 (lastI D))) := by rw [← hX, lastI_succ hDl]; have h := pget1 (r := []) hDl; rwa [List.append_nil] at h
        have g1' := gx g1
        have hpX : p < p + 1 := by omega
        have hpl : (p : Int) < (p : Int) + 1 := by omega
        by_cases hla : lastI D = 2
        · have hF : finC D = D.set p 0 := by unfold finC; rw [if_pos ⟨by omega, hla⟩, hDl]; rfl
          have s1 : X.set p (.c (.int .i64 0)) = pints (D.set p 0) := by have h := pset1 (r := []) hDl 0; rw [List.append_nil, List.append_nil] at h; rw [← hX, h]
          have hch := pchop (D.set p 0) []
          rw [List.append_nil, List.length_set, hDl] at hch
          rw [hF, hX]
          have ff := (cj @hrl <| cj @hlt <| cj @hXl <| cj @g1 <| cj @g1' <| cj @hpX <| cj @hpl <| cj @hla <| cj @s1 <| Try.results25)
          repeat any_goals (first | refine stN (RegN.mk 19) ?_ | exact lfW ff | refine ruW ff ?_ | refine cdW ff ?_ | ((first | refine bdW ff ?_ ?_ | refine bxW ff ?_ ?_ | refine bnW ff ?_ ?_ | refine brW ff ?_ ?_) <;> intro h <;> try (exfalso; first | omega | contradiction)))
          refine AW.frz 0 rfl (pints_toCs _) (by simp only [V.frzs, V.frz, List.drop_zero, hch, if_true]; exact rfl) (by simp only [List.set_cons_zero, List.map_cons, List.map_nil, O.frz, pints_frzs]; exact rfl) ?_
          unfold intsC
          have ff := (Try.results25)
          repeat any_goals (first | refine stW ?_ | exact lfW ff | refine ruW ff ?_ | refine cdW ff ?_ | ((first | refine bdW ff ?_ ?_ | refine bxW ff ?_ ?_ | refine bnW ff ?_ ?_ | refine brW ff ?_ ?_) <;> intro h <;> try (exfalso; first | omega | contradiction)))
        · have hF : finC D = D := by unfold finC; rw [if_neg (fun e => hla e.2)]
          have hch := pchop D []
          rw [List.append_nil, hDl] at hch
          rw [hF, hX]
          have ff := (cj @hrl <| cj @hlt <| cj @hXl <| cj @g1 <| cj @g1' <| cj @hpX <| cj @hpl <| cj @hla <| Try.results25)
          repeat any_goals (first | refine stN (RegN.mk 19) ?_ | exact lfW ff | refine ruW ff ?_ | refine cdW ff ?_ | ((first | refine bdW ff ?_ ?_ | refine bxW ff ?_ ?_ | refine bnW ff ?_ ?_ | refine brW ff ?_ ?_) <;> intro h <;> try (exfalso; first | omega | contradiction)))
          rw [← hX]
          refine AW.frz 0 rfl (pints_toCs _) (by simp only [V.frzs, V.frz, List.drop_zero, hch, if_true]; exact rfl) (by simp only [List.set_cons_zero, List.map_cons, List.map_nil, O.frz, pints_frzs]; exact rfl) ?_
          unfold intsC
          have ff := (Try.results25)
          repeat any_goals (first | refine stW ?_ | exact lfW ff | refine ruW ff ?_ | refine cdW ff ?_ | ((first | refine bdW ff ?_ ?_ | refine bxW ff ?_ ?_ | refine bnW ff ?_ ?_ | refine brW ff ?_ ?_) <;> intro h <;> try (exfalso; first | omega | contradiction)))
end Go.Proofs.Ytmlabapfjliaeaa
