/-
  First items of the pieces of a row (layer 43), on the abstract machine, both sides; the laws' small functions.
-/
import Derived.Test.YtmlabapfjliaeaaPo
import Derived.Test.YtmlabapfjliaeaaPp
namespace Go.Proofs.Ytmlabapfjliaeaa
open Go.RowKit
set_option linter.unusedSimpArgs false
set_option linter.unusedVariables false
set_option maxRecDepth 100000

theorem plcs_row (cls : List Int) (k : Nat) (h : permB cls k = true) : (plcs cls (k + 1)).map iRow = (plcs cls k).map iRow ++ [iRow (k : Int)] := by simp only [plcs, if_pos h, List.map_append]; rfl
theorem plcs_no (cls : List Int) (k : Nat) (h : permB cls k = false) : plcs cls (k + 1) = plcs cls k := by simp only [plcs]; rw [if_neg (by rw [h]; simp), List.append_nil]
set_option maxHeartbeats 3200000 in
theorem pPlaces_a (d : List En) (l : List Nd) (hd : d.length ≤ 1000000) (hs : ∀ e ∈ d, e.text.size ≤ maxLen) (hok : (rowN l).okk) (hc : (rowN l).cnt ≤ 100000) : AC Try.prog 8 [.c (ensC d), .c (.sl (Nd.rows l))] (liV (plcR d l)) := by
  have h1 := pClasses_a d l hd hs hok (by omega)
  have hll := ncnts_len l
  have hcr := lcnt_row l
  have hlen := @clsR_len d l
  unfold plcR
  obtain ⟨⟨cls, e⟩, hR⟩ : ∃ R, clsR d l = R := ⟨_, rfl⟩
  rw [hR] at h1 hlen ⊢
  unfold liV errV at *
  simp only at h1 hlen ⊢
  have hz : intsC [] = .sl [] := rfl
  obtain ⟨rs, hrs⟩ : ∃ rs, Nd.rows l = rs := ⟨_, rfl⟩
  have hrl : rs.length = l.length := by rw [← hrs]; exact nrows_len l
  rw [hrs] at h1 ⊢
  obtain ⟨n, hn⟩ : ∃ n, l.length = n := ⟨_, rfl⟩
  rw [hn] at hrl hll hlen ⊢
  by_cases he : e = 0
  · rw [if_neg (by omega)]
    have hcl := hlen he
    subst he
    by_cases h0 : n = 0
    · rw [if_pos h0]
      simp only
      rw [hz]
      have h0' : (rs.length : Int) = 0 := by omega
      subst h0
      refine en Try.func8 Try.ntmps8 ?_
      have ff := (cj @hrl <| cj @h0' <| Try.results8)
      repeat any_goals (first | refine stW ?_ | exact lfW ff | refine ruW ff ?_ | refine caW ff (h1) ?_ | refine cdW ff ?_ | ((first | refine bdW ff ?_ ?_ | refine bxW ff ?_ ?_ | refine bnW ff ?_ ?_ | refine brW ff ?_ ?_) <;> intro h <;> try (exfalso; first | omega | contradiction)))
    · rw [if_neg h0]
      simp only
      have h0' : ¬ (n : Int) = 0 := by omega
      have hper := fun k hk => ppermitted_a cls k hk (by omega)
      obtain ⟨CL, hC⟩ : ∃ C, intsC cls = C := ⟨_, rfl⟩
      rw [hC] at h1 hper
      refine en Try.func8 Try.ntmps8 ?_
      have ff := (cj @hrl <| cj @h0' <| Try.results8)
      repeat any_goals (first | refine stW ?_ | exact lfW ff | refine ruW ff ?_ | refine caW ff (h1) ?_ | refine cdW ff ?_ | ((first | refine bdW ff ?_ ?_ | refine bxW ff ?_ ?_ | refine bnW ff ?_ ?_ | refine brW ff ?_ ?_) <;> intro h <;> try (exfalso; first | omega | contradiction)))
      refine AW.le (Le.tokSlotN 8 3 1 [[.int .i64 0]] rfl (by simp)) ?_
      simp only [List.length_nil, List.length_cons, Nat.reduceAdd, List.set_cons_zero, List.set_cons_succ, List.nil_append]
      refine lp (ι := { k : Nat // k ≤ n }) (fun k => [(8, .gr 0 1 ((plcs cls k.1).map iRow)), (25, .c (.int .i64 (k.1 : Int)))]) (fun k => [.tok 3 1 (plcs cls k.1).length]) (fun k => n - k.1) ⟨0, by simp⟩ ?_ ?_
      all_goals simp only [puts, List.foldl_cons, List.foldl_nil, List.set_cons_zero, List.set_cons_succ]
      · refine Le.weak (by simp [subT, plcs, iRow])
      · rintro ⟨k, hk⟩
        simp only
        by_cases hlt : k < n
        · have hp := hper k (by omega)
          have hpl := plcs_len cls k
          obtain ⟨M, hM⟩ : ∃ M, (plcs cls k).length = M := ⟨_, rfl⟩
          cases hb : permB cls k with
          | false =>
            rw [hb] at hp
            rw [← plcs_no cls k hb]
            have hM' : M = (plcs cls (k + 1)).length := by rw [plcs_no cls k hb, hM]
            have ff := (cj @hlt <| Try.results8)
            repeat any_goals (first | refine stW ?_ | exact lfW ff | refine ruW ff ?_ | refine caW ff (hp) ?_ | refine cdW ff ?_ | ((first | refine bdW ff ?_ ?_ | refine bxW ff ?_ ?_ | refine bnW ff ?_ ?_ | refine brW ff ?_ ?_) <;> intro h <;> try (exfalso; first | omega | contradiction)))
            exact ⟨⟨k + 1, by omega⟩, by simp only; omega, wd 1⟩
          | true =>
            rw [hb] at hp
            have htk := plcs_row cls k hb
            have hM' : M + 1 = (plcs cls (k + 1)).length := by simp only [plcs, if_pos hb, List.length_append, hM]; rfl
            have hRl : ((plcs cls k).map iRow).length = M := by rw [List.length_map, hM]
            have hall := iRow_all (plcs cls k)
            obtain ⟨RR, hRR⟩ : ∃ R, (plcs cls k).map iRow = R := ⟨_, rfl⟩
            rw [hRR] at htk hRl hall ⊢
            have hl1 : M + 1 ≤ maxLen := by unfold maxLen; omega
            have hl2 : (M + 1) * 8 ≤ 140737488355328 := by omega
            have htk' : RR ++ [[C.int .i64 (k : Int)]] = (plcs cls (k + 1)).map iRow := htk.symm
            clear htk
            rw [hM]
            have ff := (cj @hlt <| cj @hRl <| cj @hl1 <| cj @hl2 <| cj @htk' <| cj @hM' <| Try.results8)
            repeat any_goals (first | refine stW ?_ | exact lfW ff | refine ruW ff ?_ | refine caW ff (hp) ?_ | refine cdW ff ?_ | ((first | refine bdW ff ?_ ?_ | refine bxW ff ?_ ?_ | refine bnW ff ?_ ?_ | refine brW ff ?_ ?_) <;> intro h <;> try (exfalso; first | omega | contradiction)))
            exact ⟨⟨k + 1, by omega⟩, by simp only; omega, wd 1⟩
        · have ek : k = n := by omega
          subst ek
          rw [intsC_eq (plcs cls k)]
          have ff := (cj @hlt <| Try.results8)
          repeat any_goals (first | refine stW ?_ | exact lfW ff | refine ruW ff ?_ | refine cdW ff ?_ | ((first | refine bdW ff ?_ ?_ | refine bxW ff ?_ ?_ | refine bnW ff ?_ ?_ | refine brW ff ?_ ?_) <;> intro h <;> try (exfalso; first | omega | contradiction)))
  · rw [if_pos he]
    simp only
    rw [hz]
    refine en Try.func8 Try.ntmps8 ?_
    have ff := (cj @he <| Try.results8)
    repeat any_goals (first | refine stW ?_ | exact lfW ff | refine ruW ff ?_ | refine caW ff (h1) ?_ | refine cdW ff ?_ | ((first | refine bdW ff ?_ ?_ | refine bxW ff ?_ ?_ | refine bnW ff ?_ ?_ | refine brW ff ?_ ?_) <;> intro h <;> try (exfalso; first | omega | contradiction)))
set_option maxHeartbeats 3200000 in
theorem rPlaces_a (d : List En) (l : List Nd) (hd : d.length ≤ 1000000) (hs : ∀ e ∈ d, e.text.size ≤ maxLen) (hok : (rowN l).okk) (hc : (rowN l).cnt ≤ 100000) : AC Try.prog 9 [.c (ensC d), .c (.sl (Nd.rows l))] (liV (plcR d l)) := by
  have h1 := rClasses_a d l hd hs hok (by omega)
  have hll := ncnts_len l
  have hcr := lcnt_row l
  have hlen := @clsR_len d l
  unfold plcR
  obtain ⟨⟨cls, e⟩, hR⟩ : ∃ R, clsR d l = R := ⟨_, rfl⟩
  rw [hR] at h1 hlen ⊢
  unfold liV errV at *
  simp only at h1 hlen ⊢
  have hz : intsC [] = .sl [] := rfl
  obtain ⟨rs, hrs⟩ : ∃ rs, Nd.rows l = rs := ⟨_, rfl⟩
  have hrl : rs.length = l.length := by rw [← hrs]; exact nrows_len l
  rw [hrs] at h1 ⊢
  obtain ⟨n, hn⟩ : ∃ n, l.length = n := ⟨_, rfl⟩
  rw [hn] at hrl hll hlen ⊢
  by_cases he : e = 0
  · rw [if_neg (by omega)]
    have hcl := hlen he
    subst he
    by_cases h0 : n = 0
    · rw [if_pos h0]
      simp only
      rw [hz]
      have h0' : (rs.length : Int) = 0 := by omega
      subst h0
      refine en Try.func9 Try.ntmps9 ?_
      have ff := (cj @hrl <| cj @h0' <| Try.results9)
      repeat any_goals (first | refine stW ?_ | exact lfW ff | refine ruW ff ?_ | refine caW ff (h1) ?_ | refine cdW ff ?_ | ((first | refine bdW ff ?_ ?_ | refine bxW ff ?_ ?_ | refine bnW ff ?_ ?_ | refine brW ff ?_ ?_) <;> intro h <;> try (exfalso; first | omega | contradiction)))
    · rw [if_neg h0]
      simp only
      have h0' : ¬ (n : Int) = 0 := by omega
      obtain ⟨cs, hcs⟩ : ∃ cs, cls.map iRow = cs := ⟨_, rfl⟩
      have hcsl : cs.length = n := by rw [← hcs, List.length_map, hcl]
      rw [intsC_eq cls, hcs] at h1
      refine en Try.func9 Try.ntmps9 ?_
      have ff := (cj @hrl <| cj @h0' <| Try.results9)
      repeat any_goals (first | refine stW ?_ | exact lfW ff | refine ruW ff ?_ | refine caW ff (h1) ?_ | refine cdW ff ?_ | ((first | refine bdW ff ?_ ?_ | refine bxW ff ?_ ?_ | refine bnW ff ?_ ?_ | refine brW ff ?_ ?_) <;> intro h <;> try (exfalso; first | omega | contradiction)))
      refine AW.le (Le.tokSlotN 8 3 1 [[.int .i64 0]] rfl (by simp)) ?_
      simp only [List.length_nil, List.length_cons, Nat.reduceAdd, List.set_cons_zero, List.set_cons_succ, List.nil_append]
      refine lp (ι := { k : Nat // k + 1 ≤ n }) (fun k => [(8, .gr 0 1 ((plcs cls (k.1 + 1)).map iRow)), (9, .c (.int .i64 ((k.1 : Int) + 1)))]) (fun k => [.tok 3 1 (plcs cls (k.1 + 1)).length]) (fun k => n - k.1) ⟨0, by omega⟩ ?_ ?_
      all_goals simp only [puts, List.foldl_cons, List.foldl_nil, List.set_cons_zero, List.set_cons_succ]
      · refine Le.weak (by simp [subT, plcs, iRow, permB_0])
      · rintro ⟨j, hj⟩
        simp only
        obtain ⟨k, hkk⟩ : ∃ k, j + 1 = k := ⟨_, rfl⟩
        by_cases hlt : k < n
        · obtain ⟨c, hc1⟩ : ∃ c, cls[k]? = some c := ⟨_, List.getElem?_eq_getElem (by omega)⟩
          obtain ⟨p, hp1⟩ : ∃ c, cls[j]? = some c := ⟨_, List.getElem?_eq_getElem (by omega)⟩
          have hrk : cs[k]? = some [.int .i64 c] := by rw [← hcs, List.getElem?_map, hc1]; rfl
          have hrk' := gx hrk
          have hrj : cs[j]? = some [.int .i64 p] := by rw [← hcs, List.getElem?_map, hp1]; rfl
          have hrj' := gx hrj
          have hjn : j < n := by omega
          have hpl := plcs_len cls k
          have hpb : permB cls k = (!decide (p = 3) && (decide (c = 3) || decide (c = 2))) := by
            unfold permB
            have g1 : cls.getD (k - 1) 0 = p := by rw [← hkk, Nat.add_sub_cancel, List.getD_eq_getElem?_getD, hp1]; rfl
            have g2 : cls.getD k 0 = c := by rw [List.getD_eq_getElem?_getD, hc1]; rfl
            have g3 : ¬ k = 0 := by omega
            rw [g1, g2, decide_eq_false g3, Bool.not_false, Bool.true_and]
          obtain ⟨M, hM⟩ : ∃ M, (plcs cls k).length = M := ⟨_, rfl⟩
          have hK : (j : Int) + 1 = (k : Int) := by omega
          have hK1 : (k : Int) - 1 = (j : Int) := by omega
          rw [hK, hkk]
          cases hb : permB cls k with
          | false =>
            rw [hb] at hpb
            have hM' : (plcs cls (k + 1)).length = (plcs cls k).length := by rw [plcs_no cls k hb]
            by_cases p3 : p = 3
            · have ff := (cj @hrl <| cj @hcsl <| cj @hlt <| cj @hrk <| cj @hrk' <| cj @hrj <| cj @hrj' <| cj @hjn <| cj @hK1 <| cj @p3 <| Try.results9)
              repeat any_goals (first | refine stW ?_ | exact lfW ff | refine ruW ff ?_ | refine cdW ff ?_ | ((first | refine bdW ff ?_ ?_ | refine bxW ff ?_ ?_ | refine bnW ff ?_ ?_ | refine brW ff ?_ ?_) <;> intro h <;> try (exfalso; first | omega | contradiction)))
              all_goals (rw [← plcs_no cls k hb]; exact ⟨⟨k, by omega⟩, by simp only; omega, wd 1⟩)
            · rw [decide_eq_false p3, Bool.not_false, Bool.true_and] at hpb
              have c3 : ¬ c = 3 := fun e => by rw [e] at hpb; simp at hpb
              have c2 : ¬ c = 2 := fun e => by rw [e] at hpb; simp at hpb
              have ff := (cj @hrl <| cj @hcsl <| cj @hlt <| cj @hrk <| cj @hrk' <| cj @hrj <| cj @hrj' <| cj @hjn <| cj @hK1 <| cj @c3 <| cj @c2 <| Try.results9)
              repeat any_goals (first | refine stW ?_ | exact lfW ff | refine ruW ff ?_ | refine cdW ff ?_ | ((first | refine bdW ff ?_ ?_ | refine bxW ff ?_ ?_ | refine bnW ff ?_ ?_ | refine brW ff ?_ ?_) <;> intro h <;> try (exfalso; first | omega | contradiction)))
              all_goals (rw [← plcs_no cls k hb]; exact ⟨⟨k, by omega⟩, by simp only; omega, wd 1⟩)
          | true =>
            rw [hb] at hpb
            have p3 : ¬ p = 3 := fun e => by rw [e] at hpb; simp at hpb
            have c23 : c = 3 ∨ c = 2 := by simpa [p3] using hpb.symm
            have htk := plcs_row cls k hb
            have hM' : M + 1 = (plcs cls (k + 1)).length := by simp only [plcs, if_pos hb, List.length_append, hM]; rfl
            have hRl : ((plcs cls k).map iRow).length = M := by rw [List.length_map, hM]
            have hall := iRow_all (plcs cls k)
            obtain ⟨RR, hRR⟩ : ∃ R, (plcs cls k).map iRow = R := ⟨_, rfl⟩
            rw [hRR] at htk hRl hall ⊢
            have hl1 : M + 1 ≤ maxLen := by unfold maxLen; omega
            have hl2 : (M + 1) * 8 ≤ 140737488355328 := by omega
            have htk' : RR ++ [[C.int .i64 (k : Int)]] = (plcs cls (k + 1)).map iRow := htk.symm
            clear htk
            rw [hM]
            by_cases c3 : c = 3
            · have ff := (cj @hrl <| cj @hcsl <| cj @hlt <| cj @hrk <| cj @hrk' <| cj @hrj <| cj @hrj' <| cj @hjn <| cj @hK1 <| cj @p3 <| cj @c3 <| cj @hRl <| cj @hl1 <| cj @hl2 <| cj @htk' <| cj @hM' <| Try.results9)
              repeat any_goals (first | refine stW ?_ | exact lfW ff | refine ruW ff ?_ | refine cdW ff ?_ | ((first | refine bdW ff ?_ ?_ | refine bxW ff ?_ ?_ | refine bnW ff ?_ ?_ | refine brW ff ?_ ?_) <;> intro h <;> try (exfalso; first | omega | contradiction)))
              exact ⟨⟨k, by omega⟩, by simp only; omega, wd 1⟩
            · have c2 : c = 2 := by omega
              have ff := (cj @hrl <| cj @hcsl <| cj @hlt <| cj @hrk <| cj @hrk' <| cj @hrj <| cj @hrj' <| cj @hjn <| cj @hK1 <| cj @p3 <| cj @c3 <| cj @c2 <| cj @hRl <| cj @hl1 <| cj @hl2 <| cj @htk' <| cj @hM' <| Try.results9)
              repeat any_goals (first | refine stW ?_ | exact lfW ff | refine ruW ff ?_ | refine cdW ff ?_ | ((first | refine bdW ff ?_ ?_ | refine bxW ff ?_ ?_ | refine bnW ff ?_ ?_ | refine brW ff ?_ ?_) <;> intro h <;> try (exfalso; first | omega | contradiction)))
              exact ⟨⟨k, by omega⟩, by simp only; omega, wd 1⟩
        · have ek : k = n := by omega
          have hK : (j : Int) + 1 = (k : Int) := by omega
          rw [hK, hkk]
          subst ek
          rw [intsC_eq (plcs cls k)]
          have ff := (cj @hrl <| cj @hlt <| Try.results9)
          repeat any_goals (first | refine stW ?_ | exact lfW ff | refine ruW ff ?_ | refine cdW ff ?_ | ((first | refine bdW ff ?_ ?_ | refine bxW ff ?_ ?_ | refine bnW ff ?_ ?_ | refine brW ff ?_ ?_) <;> intro h <;> try (exfalso; first | omega | contradiction)))
  · rw [if_pos he]
    simp only
    rw [hz]
    refine en Try.func9 Try.ntmps9 ?_
    have ff := (cj @he <| Try.results9)
    repeat any_goals (first | refine stW ?_ | exact lfW ff | refine ruW ff ?_ | refine caW ff (h1) ?_ | refine cdW ff ?_ | ((first | refine bdW ff ?_ ?_ | refine bxW ff ?_ ?_ | refine bnW ff ?_ ?_ | refine brW ff ?_ ?_) <;> intro h <;> try (exfalso; first | omega | contradiction)))
end Go.Proofs.Ytmlabapfjliaeaa
