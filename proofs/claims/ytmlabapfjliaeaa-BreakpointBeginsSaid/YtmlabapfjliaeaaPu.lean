/-
  Layer 43's laws on the abstract machine: the classes of the first items.
-/
import Derived.Test.YtmlabapfjliaeaaPs
namespace Go.Proofs.Ytmlabapfjliaeaa
open Go.RowKit
set_option linter.unusedSimpArgs false
set_option linter.unusedVariables false
set_option maxRecDepth 100000

set_option maxHeartbeats 6400000 in
theorem lclasses_a (d : List En) (l : List Nd) (hd : d.length ≤ maxLen) (hs : ∀ e ∈ d, e.text.size ≤ maxLen) (hok : (rowN l).okk) : AC Try.prog 4 [.c (ensC d), .c (.sl (Nd.rows l))] (.c (.bool true)) := by
  have ha := lawake_a
  have hfw := rfew26_a l 300 hok (by decide) (by decide)
  unfold maxLen at hd
  have e1 : ensC d = .sl (d.map En.row) := rfl
  have hdl : (d.map En.row).length = d.length := List.length_map ..
  by_cases h3 : d.length ≤ 300
  case neg =>
    have h3' : (300 : Int) < (d.length : Int) := by omega
    rw [e1]
    refine en Try.func4 Try.ntmps4 ?_
    have ff := (cj @hdl <| cj @h3' <| Try.results4)
    repeat any_goals (first | refine stW ?_ | exact lfW ff | refine ruW ff ?_ | refine caW ff (ha) ?_ | refine cdW ff ?_ | ((first | refine bdW ff ?_ ?_ | refine bxW ff ?_ ?_ | refine bnW ff ?_ ?_ | refine brW ff ?_ ?_) <;> intro h <;> try (exfalso; first | omega | contradiction)))
  have h3' : ¬ (300 : Int) < (d.length : Int) := by omega
  by_cases hf : (rowN l).cnt ≤ 300
  case neg =>
    rw [decide_eq_false (by omega)] at hfw
    rw [e1]
    refine en Try.func4 Try.ntmps4 ?_
    have ff := (cj @hdl <| cj @h3' <| Try.results4)
    repeat any_goals (first | refine stW ?_ | exact lfW ff | refine ruW ff ?_ | refine caW ff (ha) ?_ | refine caW ff (hfw) ?_ | refine cdW ff ?_ | ((first | refine bdW ff ?_ ?_ | refine bxW ff ?_ ?_ | refine bnW ff ?_ ?_ | refine brW ff ?_ ?_) <;> intro h <;> try (exfalso; first | omega | contradiction)))
  rw [decide_eq_true (by omega)] at hfw
  have hp := pPlaces_a d l (by omega) hs hok (by omega)
  have hr := rClasses_a d l (by omega) hs hok (by omega)
  have hnl := ncnts_len l
  have hnr := lcnt_row l
  have hcl := @clsR_len d l
  have hadj := @clsR_adj d l
  obtain ⟨n, hn⟩ : ∃ n, l.length = n := ⟨_, rfl⟩
  obtain ⟨rs, hrs⟩ : ∃ rs, Nd.rows l = rs := ⟨_, rfl⟩
  have hrl : rs.length = n := by rw [← hrs, nrows_len, hn]
  unfold plcR at hp
  obtain ⟨⟨cls, e⟩, hR⟩ : ∃ R, clsR d l = R := ⟨_, rfl⟩
  rw [hR] at hp hr hcl hadj
  unfold liV errV at hp hr
  simp only at hp hr hcl hadj
  rw [hn] at hp hcl hnl
  rw [hrs] at hp hr hfw ⊢
  rw [e1] at hp hr ⊢
  have hz : intsC [] = .sl [] := rfl
  by_cases he : e = 0
  case neg =>
    rw [if_pos he] at hp
    simp only at hp
    rw [hz] at hp
    refine en Try.func4 Try.ntmps4 ?_
    have ff := (cj @hdl <| cj @h3' <| cj @he <| Try.results4)
    repeat any_goals (first | refine stW ?_ | exact lfW ff | refine ruW ff ?_ | refine caW ff (ha) ?_ | refine caW ff (hfw) ?_ | refine caW ff (hp) ?_ | refine cdW ff ?_ | ((first | refine bdW ff ?_ ?_ | refine bxW ff ?_ ?_ | refine bnW ff ?_ ?_ | refine brW ff ?_ ?_) <;> intro h <;> try (exfalso; first | omega | contradiction)))
  rw [if_neg (by omega)] at hp
  by_cases h0 : n = 0
  · rw [if_pos h0] at hp
    simp only at hp
    rw [hz] at hp
    refine en Try.func4 Try.ntmps4 ?_
    have ff := (cj @hdl <| cj @h3' <| Try.results4)
    repeat any_goals (first | refine stW ?_ | exact lfW ff | refine ruW ff ?_ | refine caW ff (ha) ?_ | refine caW ff (hfw) ?_ | refine caW ff (hp) ?_ | refine cdW ff ?_ | ((first | refine bdW ff ?_ ?_ | refine bxW ff ?_ ?_ | refine bnW ff ?_ ?_ | refine brW ff ?_ ?_) <;> intro h <;> try (exfalso; first | omega | contradiction)))
  rw [if_neg h0] at hp
  simp only at hp
  have hcn := hcl he
  have hA := hadj he
  subst he
  have hpos := plcs_pos cls n
  have hle := plcs_len cls n
  obtain ⟨t0, ht0⟩ := plcs_0 cls n
  obtain ⟨L, hL⟩ : ∃ L, (plcs cls n).map iRow = L := ⟨_, rfl⟩
  obtain ⟨M, hM⟩ : ∃ M, (plcs cls n).length = M := ⟨_, rfl⟩
  have hLl : L.length = M := by rw [← hL, List.length_map, hM]
  have hL0 : L[0]? = some [.int .i64 0] := by rw [← hL, ht0]; rfl
  have hL0' := gx hL0
  rw [hM] at hpos hle
  have hM0 : ¬ M = 0 := by omega
  have hM1 : 0 < M := by omega
  obtain ⟨cs, hcs⟩ : ∃ cs, cls.map iRow = cs := ⟨_, rfl⟩
  have hcsl : cs.length = n := by rw [← hcs, List.length_map, hcn]
  rw [intsC_eq, hL] at hp
  rw [intsC_eq, hcs] at hr
  refine en Try.func4 Try.ntmps4 ?_
  have ff := (cj @hdl <| cj @h3' <| cj @hLl <| cj @hL0 <| cj @hL0' <| cj @hM0 <| cj @hM1 <| cj @hcsl <| cj @hrl <| Try.results4)
  repeat any_goals (first | refine stW ?_ | exact lfW ff | refine ruW ff ?_ | refine caW ff (ha) ?_ | refine caW ff (hfw) ?_ | refine caW ff (hp) ?_ | refine caW ff (hr) ?_ | refine cdW ff ?_ | ((first | refine bdW ff ?_ ?_ | refine bxW ff ?_ ?_ | refine bnW ff ?_ ?_ | refine brW ff ?_ ?_) <;> intro h <;> try (exfalso; first | omega | contradiction)))
  refine lp (ι := { k : Nat // k + 1 ≤ n }) (fun k => [(4, .c (.bool false)), (9, .c (.int .i64 ((plcs cls (k.1 + 1)).length : Int))), (10, .c (.int .i64 ((k.1 : Int) + 1)))]) (fun _ => []) (fun k => n - k.1) ⟨0, by omega⟩ ?_ ?_
  all_goals simp only [puts, List.foldl_cons, List.foldl_nil, List.set_cons_zero, List.set_cons_succ]
  · refine Le.weak (by simp [subT, plcs, permB_0])
  · rintro ⟨j, hj⟩
    simp only
    obtain ⟨i, hii⟩ : ∃ i, j + 1 = i := ⟨_, rfl⟩
    have hKi : (j : Int) + 1 = (i : Int) := by omega
    have hKj : (i : Int) - 1 = (j : Int) := by omega
    rw [hKi, hii]
    by_cases hlt : i < n
    · obtain ⟨c, hc1⟩ : ∃ c, cls[i]? = some c := ⟨_, List.getElem?_eq_getElem (by omega)⟩
      obtain ⟨p, hp1⟩ : ∃ c, cls[j]? = some c := ⟨_, List.getElem?_eq_getElem (by omega)⟩
      have hrk : cs[i]? = some [.int .i64 c] := by rw [← hcs, List.getElem?_map, hc1]; rfl
      have hrk' := gx hrk
      have hrj : cs[j]? = some [.int .i64 p] := by rw [← hcs, List.getElem?_map, hp1]; rfl
      have hrj' := gx hrj
      have hjn : j < n := by omega
      have gi : cls.getD i 0 = c := by rw [List.getD_eq_getElem?_getD, hc1]; rfl
      have gj : cls.getD j 0 = p := by rw [List.getD_eq_getElem?_getD, hp1]; rfl
      have hpb : permB cls i = (!decide (p = 3) && (decide (c = 3) || decide (c = 2))) := by
        unfold permB
        rw [show i - 1 = j by omega, gi, gj, decide_eq_false (by omega : ¬ i = 0), Bool.not_false, Bool.true_and]
      have hq : c = 2 → ¬ p = 3 := fun e => by
        have := hA j (by omega)
        rw [hii, gi, gj] at this
        exact this e
      have hat := plcs_at cls n i (by omega) hlt
      have hmo := plcs_mono cls i n (by omega)
      have hpl := plcs_len cls i
      rw [hM] at hmo
      obtain ⟨k, hk⟩ : ∃ k, (plcs cls i).length = k := ⟨_, rfl⟩
      rw [hk] at hat hmo hpl ⊢
      cases hb : permB cls i with
      | true =>
        have hLk := hat.2 hb
        have hrL : L[k]? = some [.int .i64 (i : Int)] := by rw [← hL, List.getElem?_map, hLk]; rfl
        have hrL' := gx hrL
        have hkM : k < M := by rw [← hLl]; exact (List.getElem?_eq_some_iff.1 hrL).1
        rw [hb] at hpb
        have p3 : ¬ p = 3 := fun e => by rw [e] at hpb; simp at hpb
        have c23 : c = 3 ∨ c = 2 := by simpa [p3] using hpb.symm
        have hnx : (k : Int) + 1 = ((plcs cls (i + 1)).length : Int) := by simp only [plcs, if_pos hb, List.length_append, hk]; rfl
        by_cases c2 : c = 2
        · have ff := (cj @hdl <| cj @hLl <| cj @hcsl <| cj @hrl <| cj @hlt <| cj @hrk <| cj @hrk' <| cj @hrj <| cj @hrj' <| cj @hjn <| cj @hKj <| cj @hrL <| cj @hrL' <| cj @hkM <| cj @p3 <| cj @c2 <| cj @hnx <| Try.results4)
          repeat any_goals (first | refine stW ?_ | exact lfW ff | refine ruW ff ?_ | refine cdW ff ?_ | ((first | refine bdW ff ?_ ?_ | refine bxW ff ?_ ?_ | refine bnW ff ?_ ?_ | refine brW ff ?_ ?_) <;> intro h <;> try (exfalso; first | omega | contradiction)))
          exact ⟨⟨i, by omega⟩, by simp only; omega, wd 0⟩
        · have c3 : c = 3 := by omega
          have ff := (cj @hdl <| cj @hLl <| cj @hcsl <| cj @hrl <| cj @hlt <| cj @hrk <| cj @hrk' <| cj @hrj <| cj @hrj' <| cj @hjn <| cj @hKj <| cj @hrL <| cj @hrL' <| cj @hkM <| cj @p3 <| cj @c3 <| cj @hnx <| Try.results4)
          repeat any_goals (first | refine stW ?_ | exact lfW ff | refine ruW ff ?_ | refine cdW ff ?_ | ((first | refine bdW ff ?_ ?_ | refine bxW ff ?_ ?_ | refine bnW ff ?_ ?_ | refine brW ff ?_ ?_) <;> intro h <;> try (exfalso; first | omega | contradiction)))
          exact ⟨⟨i, by omega⟩, by simp only; omega, wd 0⟩
      | false =>
        rw [hb] at hat hpb
        have hnx : ((plcs cls (i + 1)).length : Int) = (k : Int) := by rw [plcs_no cls i hb, hk]
        have c2 : ¬ c = 2 := fun e => by have := hq e; rw [e] at hpb; simp [this] at hpb
        have c3 : c = 3 → p = 3 := fun e => by
          rw [e] at hpb
          by_cases h : p = 3
          · exact h
          · simp [h] at hpb
        by_cases hkM : k < M
        · obtain ⟨x, hx⟩ : ∃ x, (plcs cls n)[k]? = some x := ⟨_, List.getElem?_eq_getElem (by omega)⟩
          have hxi : ¬ x = (i : Int) := fun e => by rw [hx, e] at hat; exact absurd (hat.1 rfl) (by simp)
          have hrL : L[k]? = some [.int .i64 x] := by rw [← hL, List.getElem?_map, hx]; rfl
          have hrL' := gx hrL
          by_cases h3c : c = 3
          · have p3 := c3 h3c
            have ff := (cj @hdl <| cj @hLl <| cj @hcsl <| cj @hrl <| cj @hlt <| cj @hrk <| cj @hrk' <| cj @hrj <| cj @hrj' <| cj @hjn <| cj @hKj <| cj @hrL <| cj @hrL' <| cj @hkM <| cj @hxi <| cj @h3c <| cj @p3 <| Try.results4)
            repeat any_goals (first | refine stW ?_ | exact lfW ff | refine ruW ff ?_ | refine cdW ff ?_ | ((first | refine bdW ff ?_ ?_ | refine bxW ff ?_ ?_ | refine bnW ff ?_ ?_ | refine brW ff ?_ ?_) <;> intro h <;> try (exfalso; first | omega | contradiction)))
            refine ⟨⟨i, by omega⟩, by simp only; omega, ?_⟩
            simp only [hnx]
            exact wd 0
          · have ff := (cj @hdl <| cj @hLl <| cj @hcsl <| cj @hrl <| cj @hlt <| cj @hrk <| cj @hrk' <| cj @hrj <| cj @hrj' <| cj @hjn <| cj @hKj <| cj @hrL <| cj @hrL' <| cj @hkM <| cj @hxi <| cj @c2 <| cj @h3c <| Try.results4)
            repeat any_goals (first | refine stW ?_ | exact lfW ff | refine ruW ff ?_ | refine cdW ff ?_ | ((first | refine bdW ff ?_ ?_ | refine bxW ff ?_ ?_ | refine bnW ff ?_ ?_ | refine brW ff ?_ ?_) <;> intro h <;> try (exfalso; first | omega | contradiction)))
            refine ⟨⟨i, by omega⟩, by simp only; omega, ?_⟩
            simp only [hnx]
            exact wd 0
        · by_cases h3c : c = 3
          · have p3 := c3 h3c
            have ff := (cj @hdl <| cj @hLl <| cj @hcsl <| cj @hrl <| cj @hlt <| cj @hrk <| cj @hrk' <| cj @hrj <| cj @hrj' <| cj @hjn <| cj @hKj <| cj @hkM <| cj @h3c <| cj @p3 <| Try.results4)
            repeat any_goals (first | refine stW ?_ | exact lfW ff | refine ruW ff ?_ | refine cdW ff ?_ | ((first | refine bdW ff ?_ ?_ | refine bxW ff ?_ ?_ | refine bnW ff ?_ ?_ | refine brW ff ?_ ?_) <;> intro h <;> try (exfalso; first | omega | contradiction)))
            refine ⟨⟨i, by omega⟩, by simp only; omega, ?_⟩
            simp only [hnx]
            exact wd 0
          · have ff := (cj @hdl <| cj @hLl <| cj @hcsl <| cj @hrl <| cj @hlt <| cj @hrk <| cj @hrk' <| cj @hrj <| cj @hrj' <| cj @hjn <| cj @hKj <| cj @hkM <| cj @c2 <| cj @h3c <| Try.results4)
            repeat any_goals (first | refine stW ?_ | exact lfW ff | refine ruW ff ?_ | refine cdW ff ?_ | ((first | refine bdW ff ?_ ?_ | refine bxW ff ?_ ?_ | refine bnW ff ?_ ?_ | refine brW ff ?_ ?_) <;> intro h <;> try (exfalso; first | omega | contradiction)))
            refine ⟨⟨i, by omega⟩, by simp only; omega, ?_⟩
            simp only [hnx]
            exact wd 0
    · have ei : i = n := by omega
      subst ei
      rw [hM]
      have ff := (cj @hdl <| cj @hLl <| cj @hrl <| cj @hlt <| Try.results4)
      repeat any_goals (first | refine stW ?_ | exact lfW ff | refine ruW ff ?_ | refine cdW ff ?_ | ((first | refine bdW ff ?_ ?_ | refine bxW ff ?_ ?_ | refine bnW ff ?_ ?_ | refine brW ff ?_ ?_) <;> intro h <;> try (exfalso; first | omega | contradiction)))
end Go.Proofs.Ytmlabapfjliaeaa
