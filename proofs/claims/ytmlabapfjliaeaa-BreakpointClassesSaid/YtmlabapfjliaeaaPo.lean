/-
  Classes of items (layer 26), first items of the pieces of a row (layer 43), on the abstract machine, both sides.
-/
import Derived.Test.YtmlabapfjliaeaaPn
namespace Go.Proofs.Ytmlabapfjliaeaa
open Go.RowKit
set_option linter.unusedSimpArgs false
set_option linter.unusedVariables false
set_option maxRecDepth 100000

def clsR (d : List En) (l : List Nd) : List Int × Int := if dictB d = false ∨ (rowN l).validB = false then ([], 1) else (rowC (ownC d l), 0)
def liV (p : List Int × Int) : V := .tup [.c (intsC p.1), errV p.2]
theorem lok_row {l : List Nd} (h : (rowN l).okk) : Nd.okks l := h.2.2
theorem lcnt_row (l : List Nd) : (rowN l).cnt = 1 + Nd.cnts l := rfl
set_option maxHeartbeats 1600000 in
theorem pClasses_a (d : List En) (l : List Nd) (hd : d.length ≤ 1000000) (hs : ∀ e ∈ d, e.text.size ≤ maxLen) (hok : (rowN l).okk) (hc : (rowN l).cnt ≤ 900000) : AC Try.prog 16 [.c (ensC d), .c (.sl (Nd.rows l))] (liV (clsR d l)) := by
  have h1 := pvalid8_a d hd hs
  have h2 := pvalidItems_a l hok hc
  have hll := ncnts_len l
  have hcr := lcnt_row l
  have h3 := pclasses_a d l hd (by omega) (lok_row hok)
  obtain ⟨R, hR⟩ : ∃ R, rowC (ownC d l) = R := ⟨_, rfl⟩
  unfold clsR liV
  rw [hR] at h3 ⊢
  have hz : intsC [] = .sl [] := rfl
  cases e1 : dictB d with
  | false =>
    rw [e1] at h1
    rw [if_pos (.inl rfl)]
    unfold errV
    rw [hz]
    refine en Try.func16 Try.ntmps16 ?_
    have ff := (Try.results16)
    repeat any_goals (first | refine stW ?_ | exact lfW ff | refine ruW ff ?_ | refine caW ff (h1) ?_ | refine cdW ff ?_ | ((first | refine bdW ff ?_ ?_ | refine bxW ff ?_ ?_ | refine bnW ff ?_ ?_ | refine brW ff ?_ ?_) <;> intro h <;> try (exfalso; first | omega | contradiction)))
  | true =>
    rw [e1] at h1
    cases e2 : (rowN l).validB with
    | false =>
      rw [e2] at h2
      rw [if_pos (.inr rfl)]
      unfold errV
      rw [hz]
      refine en Try.func16 Try.ntmps16 ?_
      have ff := (Try.results16)
      repeat any_goals (first | refine stW ?_ | exact lfW ff | refine ruW ff ?_ | refine caW ff (h1) ?_ | refine caW ff (h2) ?_ | refine cdW ff ?_ | ((first | refine bdW ff ?_ ?_ | refine bxW ff ?_ ?_ | refine bnW ff ?_ ?_ | refine brW ff ?_ ?_) <;> intro h <;> try (exfalso; first | omega | contradiction)))
    | true =>
      rw [e2] at h2
      rw [if_neg (by simp)]
      unfold errV
      refine en Try.func16 Try.ntmps16 ?_
      have ff := (Try.results16)
      repeat any_goals (first | refine stW ?_ | exact lfW ff | refine ruW ff ?_ | refine caW ff (h1) ?_ | refine caW ff (h2) ?_ | refine caW ff (h3) ?_ | refine cdW ff ?_ | ((first | refine bdW ff ?_ ?_ | refine bxW ff ?_ ?_ | refine bnW ff ?_ ?_ | refine brW ff ?_ ?_) <;> intro h <;> try (exfalso; first | omega | contradiction)))
def iRow (n : Int) : List C := [.int .i64 n]
theorem intsC_eq (l : List Int) : intsC l = .sl (l.map iRow) := rfl
theorem iRow_all (l : List Int) : ((l.map iRow).all fun r => r.length == 1) = true := by
  rw [List.all_eq_true]
  intro r hr
  obtain ⟨n, _, rfl⟩ := List.mem_map.1 hr
  rfl
set_option maxHeartbeats 3200000 in
theorem rClasses_a (d : List En) (l : List Nd) (hd : d.length ≤ 1000000) (hs : ∀ e ∈ d, e.text.size ≤ maxLen) (hok : (rowN l).okk) (hc : (rowN l).cnt ≤ 100000) : AC Try.prog 11 [.c (ensC d), .c (.sl (Nd.rows l))] (liV (clsR d l)) := by
  have h1 := rvalid8_a d hd hs
  have h2 := rvalidItems_a l hok hc
  have hll := ncnts_len l
  have hcr := lcnt_row l
  have h4 := rrow_a (ownC d l) (by rw [ownC_len]; omega)
  have hcls := rclass_a d hd
  obtain ⟨R, hR⟩ : ∃ R, rowC (ownC d l) = R := ⟨_, rfl⟩
  unfold clsR liV
  rw [hR] at h4 ⊢
  have hz : intsC [] = .sl [] := rfl
  cases e1 : dictB d with
  | false =>
    rw [e1] at h1
    rw [if_pos (.inl rfl)]
    unfold errV
    rw [hz]
    refine en Try.func11 Try.ntmps11 ?_
    have ff := (Try.results11)
    repeat any_goals (first | refine stW ?_ | exact lfW ff | refine ruW ff ?_ | refine caW ff (h1) ?_ | refine cdW ff ?_ | ((first | refine bdW ff ?_ ?_ | refine bxW ff ?_ ?_ | refine bnW ff ?_ ?_ | refine brW ff ?_ ?_) <;> intro h <;> try (exfalso; first | omega | contradiction)))
  | true =>
    rw [e1] at h1
    cases e2 : (rowN l).validB with
    | false =>
      rw [e2] at h2
      rw [if_pos (.inr rfl)]
      unfold errV
      rw [hz]
      refine en Try.func11 Try.ntmps11 ?_
      have ff := (Try.results11)
      repeat any_goals (first | refine stW ?_ | exact lfW ff | refine ruW ff ?_ | refine caW ff (h1) ?_ | refine caW ff (h2) ?_ | refine cdW ff ?_ | ((first | refine bdW ff ?_ ?_ | refine bxW ff ?_ ?_ | refine bnW ff ?_ ?_ | refine brW ff ?_ ?_) <;> intro h <;> try (exfalso; first | omega | contradiction)))
    | true =>
      rw [e2] at h2
      rw [if_neg (by simp)]
      unfold errV
      obtain ⟨rs, hrs⟩ : ∃ rs, Nd.rows l = rs := ⟨_, rfl⟩
      have hrl : rs.length = l.length := by rw [← hrs]; exact nrows_len l
      rw [hrs] at h2 ⊢
      obtain ⟨n, hn⟩ : ∃ n, l.length = n := ⟨_, rfl⟩
      rw [hn] at hrl hll
      refine en Try.func11 Try.ntmps11 ?_
      have ff := (cj @hrl <| Try.results11)
      repeat any_goals (first | refine stW ?_ | exact lfW ff | refine ruW ff ?_ | refine caW ff (h1) ?_ | refine caW ff (h2) ?_ | refine cdW ff ?_ | ((first | refine bdW ff ?_ ?_ | refine bxW ff ?_ ?_ | refine bnW ff ?_ ?_ | refine brW ff ?_ ?_) <;> intro h <;> try (exfalso; first | omega | contradiction)))
      refine AW.le (Le.tokSlot 6 3 1 rfl) ?_
      simp only [List.length_nil, List.set_cons_zero, List.set_cons_succ, List.nil_append]
      refine lp (ι := { k : Nat // k ≤ n }) (fun k => [(6, .gr 0 1 (((ownC d l).take k.1).map iRow)), (7, .c (.int .i64 (k.1 : Int)))]) (fun k => [.tok 3 1 k.1]) (fun k => n - k.1) ⟨0, by simp⟩ ?_ ?_
      all_goals simp only [puts, List.foldl_cons, List.foldl_nil, List.set_cons_zero, List.set_cons_succ]
      · refine Le.weak (by simp [subT])
      · rintro ⟨k, hk⟩
        simp only
        by_cases hlt : k < n
        · obtain ⟨b, hb⟩ : ∃ b, l[k]? = some b := ⟨_, List.getElem?_eq_getElem (by omega)⟩
          have hrk : rs[k]? = some b.row := by rw [← hrs]; exact nrows_get hb
          have hltr : k < rs.length := by omega
          have hrk' := gx hrk
          have hca := hcls b (nokks_mem (lok_row hok) b (List.mem_of_getElem? hb))
          unfold ndV at hca
          obtain ⟨c, hcc⟩ : ∃ c, clsN d b = c := ⟨_, rfl⟩
          rw [hcc] at hca
          have hgo : (ownC d l)[k]? = some c := by unfold ownC; rw [List.getElem?_map, hb, ← hcc]; rfl
          have htk : ((ownC d l).take (k + 1)).map iRow = ((ownC d l).take k).map iRow ++ [iRow c] := by rw [List.take_add_one, hgo, List.map_append]; rfl
          have hRl : (((ownC d l).take k).map iRow).length = k := by rw [List.length_map, List.length_take, ownC_len]; omega
          have hall := iRow_all ((ownC d l).take k)
          obtain ⟨RR, hRR⟩ : ∃ R, ((ownC d l).take k).map iRow = R := ⟨_, rfl⟩
          rw [hRR] at htk hRl hall ⊢
          have hl1 : k + 1 ≤ maxLen := by unfold maxLen; omega
          have hl2 : (k + 1) * 8 ≤ 140737488355328 := by omega
          have htk' : RR ++ [[C.int .i64 c]] = ((ownC d l).take (k + 1)).map iRow := htk.symm
          clear htk
          have ff := (cj @hrl <| cj @hlt <| cj @hltr <| cj @hrk <| cj @hrk' <| cj @hRl <| cj @hl1 <| cj @hl2 <| cj @htk' <| Try.results11)
          repeat any_goals (first | refine stW ?_ | exact lfW ff | refine ruW ff ?_ | refine caW ff (hca) ?_ | refine cdW ff ?_ | ((first | refine bdW ff ?_ ?_ | refine bxW ff ?_ ?_ | refine bnW ff ?_ ?_ | refine brW ff ?_ ?_) <;> intro h <;> try (exfalso; first | omega | contradiction)))
          exact ⟨⟨k + 1, by omega⟩, by simp only; omega, wd 1⟩
        · have e3 : (ownC d l).take k = ownC d l := List.take_of_length_le (by rw [ownC_len]; omega)
          rw [e3]
          rw [intsC_eq (ownC d l)] at h4
          have ff := (cj @hrl <| cj @hlt <| Try.results11)
          repeat any_goals (first | refine stW ?_ | exact lfW ff | refine ruW ff ?_ | refine caW ff (h4) ?_ | refine cdW ff ?_ | ((first | refine bdW ff ?_ ?_ | refine bxW ff ?_ ?_ | refine bnW ff ?_ ?_ | refine brW ff ?_ ?_) <;> intro h <;> try (exfalso; first | omega | contradiction)))
/-! first items -/
def permB (cls : List Int) (k : Nat) : Bool := !decide (k = 0) && (!decide (cls.getD (k - 1) 0 = 3) && (decide (cls.getD k 0 = 3) || decide (cls.getD k 0 = 2)))
def plcs (cls : List Int) : Nat → List Int
  | 0 => [0]
  | k + 1 => plcs cls k ++ (if permB cls k = true then [(k : Int)] else [])
def plcR (d : List En) (l : List Nd) : List Int × Int := if (clsR d l).2 ≠ 0 then ([], (clsR d l).2) else if l.length = 0 then ([], 8) else (plcs (clsR d l).1 l.length, 0)
theorem plcs_len (cls : List Int) : ∀ k, (plcs cls k).length ≤ k + 1
  | 0 => Nat.le_refl _
  | k + 1 => by
    have := plcs_len cls k
    simp only [plcs, List.length_append]
    split <;> simp <;> omega
theorem permB_0 (cls : List Int) : permB cls 0 = false := rfl
theorem clsR_len {d : List En} {l : List Nd} (h : (clsR d l).2 = 0) : (clsR d l).1.length = l.length := by
  unfold clsR at h ⊢
  split at h
  · cases h
  · rename_i hq
    rw [if_neg hq]
    rw [rowC_len, ownC_len]
theorem ppermitted_a (cls : List Int) (k : Nat) (hk : k < cls.length) (hl : cls.length ≤ 1000000) : AC Try.prog 17 [.c (intsC cls), .c (.int .i64 (k : Int))] (.c (.bool (permB cls k))) := by
  obtain ⟨rs, hrs⟩ : ∃ rs, cls.map iRow = rs := ⟨_, rfl⟩
  have hrl : rs.length = cls.length := by rw [← hrs, List.length_map]
  rw [intsC_eq, hrs]
  obtain ⟨c, hc⟩ : ∃ c, cls[k]? = some c := ⟨_, List.getElem?_eq_getElem hk⟩
  have hrk : rs[k]? = some [.int .i64 c] := by rw [← hrs, List.getElem?_map, hc]; rfl
  have hltr : k < rs.length := by omega
  have hrk' := gx hrk
  have hgd : cls.getD k 0 = c := by rw [List.getD_eq_getElem?_getD, hc]; rfl
  unfold permB
  rw [hgd]
  cases k with
  | zero =>
    refine en Try.func17 Try.ntmps17 ?_
    have ff := (cj @hrl <| cj @hrk <| cj @hrk' <| cj @hltr <| Try.results17)
    repeat any_goals (first | refine stW ?_ | exact lfW ff | refine ruW ff ?_ | refine cdW ff ?_ | ((first | refine bdW ff ?_ ?_ | refine bxW ff ?_ ?_ | refine bnW ff ?_ ?_ | refine brW ff ?_ ?_) <;> intro h <;> try (exfalso; first | omega | contradiction)))
  | succ j =>
    obtain ⟨p, hp⟩ : ∃ c, cls[j]? = some c := ⟨_, List.getElem?_eq_getElem (by omega)⟩
    have hrj : rs[j]? = some [.int .i64 p] := by rw [← hrs, List.getElem?_map, hp]; rfl
    have hltj : j < rs.length := by omega
    have hrj' := gx hrj
    have hgp : cls.getD (j + 1 - 1) 0 = p := by rw [Nat.add_sub_cancel, List.getD_eq_getElem?_getD, hp]; rfl
    rw [hgp]
    have hj0 : ¬ j + 1 = 0 := by omega
    rw [decide_eq_false hj0, Bool.not_false, Bool.true_and]
    have hj1 : ¬ (j : Int) + 1 = 0 := by omega
    have hj2 : (0 : Int) ≤ (j : Int) + 1 := by omega
    have hj3 : (j : Int) + 1 < (cls.length : Int) := by omega
    have hj4 : j < cls.length := by omega
    by_cases h3 : p = 3
    · rw [decide_eq_true h3, Bool.not_true, Bool.false_and]
      refine en Try.func17 Try.ntmps17 ?_
      have ff := (cj @hrl <| cj @hrk <| cj @hrk' <| cj @hltr <| cj @hrj <| cj @hrj' <| cj @hltj <| cj @hj1 <| cj @hj2 <| cj @hj3 <| cj @hj4 <| cj @hk <| cj @h3 <| Try.results17)
      repeat any_goals (first | refine stW ?_ | exact lfW ff | refine ruW ff ?_ | refine cdW ff ?_ | ((first | refine bdW ff ?_ ?_ | refine bxW ff ?_ ?_ | refine bnW ff ?_ ?_ | refine brW ff ?_ ?_) <;> intro h <;> try (exfalso; first | omega | contradiction)))
    · rw [decide_eq_false h3, Bool.not_false, Bool.true_and]
      refine en Try.func17 Try.ntmps17 ?_
      have ff := (cj @hrl <| cj @hrk <| cj @hrk' <| cj @hltr <| cj @hrj <| cj @hrj' <| cj @hltj <| cj @hj1 <| cj @hj2 <| cj @hj3 <| cj @hj4 <| cj @hk <| cj @h3 <| Try.results17)
      repeat any_goals (first | refine stW ?_ | exact lfW ff | refine ruW ff ?_ | refine cdW ff ?_ | ((first | refine bdW ff ?_ ?_ | refine bxW ff ?_ ?_ | refine bnW ff ?_ ?_ | refine brW ff ?_ ?_) <;> intro h <;> try (exfalso; first | omega | contradiction)))
end Go.Proofs.Ytmlabapfjliaeaa
