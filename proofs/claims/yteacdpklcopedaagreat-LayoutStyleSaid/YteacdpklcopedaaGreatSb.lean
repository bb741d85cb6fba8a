/-
  Rows of trees by their paths (layer 9), both sides.
-/
import Derived.Test.YteacdpklcopedaaGreatPb
import Derived.Test.YteacdpklcopedaaGreatBa
import Derived.Test.YteacdpklcopedaaGreatTz
namespace Go.Proofs.YteacdpklcopedaaGreat
open Go.RowKit
set_option linter.unusedSimpArgs false
set_option linter.unusedVariables false
set_option maxRecDepth 100000

def zeroN : Nd := ⟨0, ⟨#[]⟩, 0, []⟩
/-- one step of a path -/
def kidN (n : Nd) (i : Int) : Option Nd := if i < 0 then none else n.kids[i.toNat]?
/-- the row with a path -/
def findN : Nd → List Int → Option Nd
  | n, [] => some n
  | _, [_] => none
  | n, i :: j :: r => match kidN n i with
    | none => none
    | some m => match kidN m j with
      | none => none
      | some q => findN q r
/-- what the program's find returns -/
def findP : Nd → List Int → V × Bool
  | n, [] => (.cp n.row 0, true)
  | n, [_] => (.cp n.row 0, false)
  | n, i :: j :: r => match kidN n i with
    | none => (.c .nilp, false)
    | some m => match kidN m j with
      | none => (.c .nilp, false)
      | some q => findP q r
def findR : Nd → List Int → Nd × Bool
  | n, [] => (n, true)
  | n, [_] => (n, false)
  | n, i :: j :: r => match kidN n i with
    | none => (zeroN, false)
    | some m => match kidN m j with
      | none => (zeroN, false)
      | some q => findR q r
theorem kid_none {n : Nd} {i : Int} (h : kidN n i = none) : i < 0 ∨ (n.kids.length : Int) ≤ i := by
  unfold kidN at h
  split at h
  · left; assumption
  · right
    have := List.getElem?_eq_none_iff.1 h
    omega
theorem kid_some {n m : Nd} {i : Int} (h : kidN n i = some m) : ∃ a : Nat, i = (a : Int) ∧ a < n.kids.length ∧ (Nd.rows n.kids)[a]? = some m.row ∧ n.kids[a]? = some m := by
  unfold kidN at h
  split at h
  · cases h
  · have hl := (List.getElem?_eq_some_iff.1 h).1
    exact ⟨i.toNat, by omega, hl, nrows_get h, h⟩
theorem findP_ok : ∀ (n : Nd) (l : List Int), (∀ m, findN n l = some m → findP n l = (.cp m.row 0, true)) ∧ (findN n l = none → (findP n l).2 = false)
  | n, [] => ⟨fun m h => by simp only [findN, Option.some.injEq] at h; subst h; rfl, fun h => by simp [findN] at h⟩
  | n, [_] => ⟨fun m h => by simp [findN] at h, fun h => rfl⟩
  | n, i :: j :: r => by
    simp only [findN, findP]
    cases kidN n i with
    | none => exact ⟨fun m h => by simp at h, fun _ => rfl⟩
    | some m =>
      simp only
      cases kidN m j with
      | none => exact ⟨fun m h => by simp at h, fun _ => rfl⟩
      | some q => exact findP_ok q r
theorem findR_ok : ∀ (n : Nd) (l : List Int), (∀ m, findN n l = some m → findR n l = (m, true)) ∧ (findN n l = none → (findR n l).2 = false)
  | n, [] => ⟨fun m h => by simp only [findN, Option.some.injEq] at h; subst h; rfl, fun h => by simp [findN] at h⟩
  | n, [_] => ⟨fun m h => by simp [findN] at h, fun h => rfl⟩
  | n, i :: j :: r => by
    simp only [findN, findR]
    cases kidN n i with
    | none => exact ⟨fun m h => by simp at h, fun _ => rfl⟩
    | some m =>
      simp only
      cases kidN m j with
      | none => exact ⟨fun m h => by simp at h, fun _ => rfl⟩
      | some q => exact findR_ok q r
theorem nokk_kid {n m : Nd} {i : Int} (hok : n.okk) (h : kidN n i = some m) : m.okk := by
  obtain ⟨a, _, _, _, h4⟩ := kid_some h
  exact nokks_mem (nokk_at n hok).2.2 m (List.mem_of_getElem? h4)

theorem cut2 (a b : Nat) (r : List Int) : List.drop 2 (List.take ((r.length : Int) + 1 + 1).toNat ([C.int .i64 (a : Int)] :: [C.int .i64 (b : Int)] :: r.map (fun n => [C.int .i64 n]))) = r.map (fun n => [C.int .i64 n]) := by
  have : ((r.length : Int) + 1 + 1).toNat = r.length + 2 := by omega
  rw [this]
  simp only [List.take_succ_cons, List.drop_succ_cons, List.drop_zero]
  exact List.take_of_length_le (by simp)
set_option maxHeartbeats 4000000 in
theorem pfind9_a (n : Nd) (l : List Int) (hok : n.okk) (hl : l.length ≤ 1000000) : AC Tryz.prog 23 [.cp n.row 0, .c (intsC l)] (.tup [(findP n l).1, .c (.bool (findP n l).2)]) := by
  obtain ⟨R, hR⟩ : ∃ R, findP n l = R := ⟨_, rfl⟩
  rw [hR]
  unfold intsC
  refine en Tryz.func23 Tryz.ntmps23 ?_
  refine go0 ?_
  refine lp (ι := { p : Nd × List Int // findP p.1 p.2 = R ∧ p.1.okk ∧ p.2.length ≤ 1000000 }) (fun p => [(0, .cp p.1.1.row 0), (1, .c (.sl (p.1.2.map fun n => [.int .i64 n])))]) (fun _ => []) (fun p => p.1.2.length) ⟨(n, l), hR, hok, hl⟩ ?_ ?_
  all_goals simp only [puts, List.foldl_cons, List.foldl_nil, List.set_cons_zero, List.set_cons_succ]
  · exact wd 0
  rintro ⟨⟨n, l⟩, hR, hok, hl⟩
  simp only at hR hok hl ⊢
  match l, hR, hl with
  | [], hR, hl =>
    simp only [findP] at hR
    subst hR
    have ff := (Tryz.results23)
    repeat any_goals (first | refine stW ?_ | exact lfW ff | refine ruW ff ?_ | refine cdW ff ?_ | ((first | refine bdW ff ?_ ?_ | refine bxW ff ?_ ?_ | refine bnW ff ?_ ?_ | refine brW ff ?_ ?_) <;> intro h <;> try (exfalso; first | omega | contradiction)))
  | [i], hR, hl =>
    simp only [findP] at hR
    subst hR
    have ff := (Tryz.results23)
    repeat any_goals (first | refine stW ?_ | exact lfW ff | refine ruW ff ?_ | refine cdW ff ?_ | ((first | refine bdW ff ?_ ?_ | refine bxW ff ?_ ?_ | refine bnW ff ?_ ?_ | refine brW ff ?_ ?_) <;> intro h <;> try (exfalso; first | omega | contradiction)))
  | i :: j :: r, hR, hl =>
    simp only [findP] at hR
    have h2 : ¬ ((r.length : Int) + 1 + 1 < 2) := by omega
    have h2' : (2 : Int) ≤ (r.length : Int) + 1 + 1 := by omega
    have hk1 := nokk_at n hok
    have hnl := nrows_len n.kids
    cases hk : kidN n i with
    | none =>
      rw [hk] at hR
      simp only at hR
      subst hR
      have := kid_none hk
      by_cases hi : i < 0
      · have ff := (cj @h2 <| cj @h2' <| cj @hi <| Tryz.results23)
        repeat any_goals (first | refine stW ?_ | exact lfW ff | refine ruW ff ?_ | refine cdW ff ?_ | ((first | refine bdW ff ?_ ?_ | refine bxW ff ?_ ?_ | refine bnW ff ?_ ?_ | refine brW ff ?_ ?_) <;> intro h <;> try (exfalso; first | omega | contradiction)))
      · have hi2 : (n.kids.length : Int) ≤ i := by omega
        have ff := (cj @h2 <| cj @h2' <| cj @hi <| cj @hi2 <| cj @hnl <| Tryz.results23)
        repeat any_goals (first | refine stW ?_ | exact lfW ff | refine ruW ff ?_ | refine cdW ff ?_ | ((first | refine bdW ff ?_ ?_ | refine bxW ff ?_ ?_ | refine bnW ff ?_ ?_ | refine brW ff ?_ ?_) <;> intro h <;> try (exfalso; first | omega | contradiction)))
    | some m =>
      rw [hk] at hR
      simp only at hR
      have hokm := nokk_kid hok hk
      obtain ⟨a, rfl, ha, hra, _⟩ := kid_some hk
      have hra' := gx hra
      have ha0 : ¬ ((a : Int) < 0) := by omega
      have ha2 : ¬ ((n.kids.length : Int) ≤ (a : Int)) := by omega
      have ha3 : ¬ (n.kids.length ≤ a) := by omega
      have hml := nrows_len m.kids
      cases hj : kidN m j with
      | none =>
        rw [hj] at hR
        simp only at hR
        subst hR
        have := kid_none hj
        by_cases hi : j < 0
        · have ff := (cj @h2 <| cj @h2' <| cj @ha <| cj @ha0 <| cj @ha2 <| cj @ha3 <| cj @hra <| cj @hra' <| cj @hnl <| cj @hi <| Tryz.results23)
          repeat any_goals (first | refine stW ?_ | exact lfW ff | refine ruW ff ?_ | refine cdW ff ?_ | ((first | refine bdW ff ?_ ?_ | refine bxW ff ?_ ?_ | refine bnW ff ?_ ?_ | refine brW ff ?_ ?_) <;> intro h <;> try (exfalso; first | omega | contradiction)))
        · have hi2 : (m.kids.length : Int) ≤ j := by omega
          have ff := (cj @h2 <| cj @h2' <| cj @ha <| cj @ha0 <| cj @ha2 <| cj @ha3 <| cj @hra <| cj @hra' <| cj @hnl <| cj @hi <| cj @hi2 <| cj @hml <| Tryz.results23)
          repeat any_goals (first | refine stW ?_ | exact lfW ff | refine ruW ff ?_ | refine cdW ff ?_ | ((first | refine bdW ff ?_ ?_ | refine bxW ff ?_ ?_ | refine bnW ff ?_ ?_ | refine brW ff ?_ ?_) <;> intro h <;> try (exfalso; first | omega | contradiction)))
      | some q =>
        rw [hj] at hR
        simp only at hR
        have hokq := nokk_kid hokm hj
        obtain ⟨b, rfl, hb, hrb, _⟩ := kid_some hj
        have hrb' := gx hrb
        have hb0 : ¬ ((b : Int) < 0) := by omega
        have hb2 : ¬ ((m.kids.length : Int) ≤ (b : Int)) := by omega
        have hb3 : ¬ (m.kids.length ≤ b) := by omega
        have ff := (cj @h2 <| cj @h2' <| cj @ha <| cj @ha0 <| cj @ha2 <| cj @ha3 <| cj @hra <| cj @hra' <| cj @hnl <| cj @hb <| cj @hb0 <| cj @hb2 <| cj @hb3 <| cj @hrb <| cj @hrb' <| cj @hml <| Tryz.results23)
        repeat any_goals (first | refine stW ?_ | exact lfW ff | refine ruW ff ?_ | refine cdW ff ?_ | ((first | refine bdW ff ?_ ?_ | refine bxW ff ?_ ?_ | refine bnW ff ?_ ?_ | refine brW ff ?_ ?_) <;> intro h <;> try (exfalso; first | omega | contradiction)))
        rw [cut2 a b r]
        refine ⟨⟨(q, r), hR, hokq, by simp only [List.length_cons] at hl; show r.length ≤ 1000000; omega⟩, by simp only [List.length_cons]; omega, ?_⟩
        exact wd 0
set_option maxHeartbeats 4000000 in
theorem rfind9_a (n : Nd) (l : List Int) (hok : n.okk) (hl : l.length ≤ 1000000) : AC Tryz.prog 29 [ndV n, .c (intsC l)] (.tup [ndV (findR n l).1, .c (.bool (findR n l).2)]) := by
  obtain ⟨R, hR⟩ : ∃ R, findR n l = R := ⟨_, rfl⟩
  have hz : zeroN.vs = [.c (.int .i64 0), .c (.str ⟨#[]⟩), .c (.int .i64 0), .c (.sl [])] := rfl
  rw [hR]
  unfold intsC ndV
  refine en Tryz.func29 Tryz.ntmps29 ?_
  refine go0 ?_
  refine lp (ι := { p : Nd × List Int // findR p.1 p.2 = R ∧ p.1.okk ∧ p.2.length ≤ 1000000 }) (fun p => [(1, .c (.sl (p.1.2.map fun n => [.int .i64 n])))]) (fun p => [.box 24 p.1.1.vs false, .box 24 [.c (.int .i64 0), .c (.str ⟨#[]⟩), .c (.int .i64 0), .full []] false]) (fun p => p.1.2.length) ⟨(n, l), hR, hok, hl⟩ ?_ ?_
  all_goals simp only [puts, List.foldl_cons, List.foldl_nil, List.set_cons_zero, List.set_cons_succ]
  · exact wd 2
  rintro ⟨⟨n, l⟩, hR, hok, hl⟩
  simp only at hR hok hl ⊢
  match l, hR, hl with
  | [], hR, hl =>
    simp only [findR] at hR
    subst hR
    have ff := (Tryz.results29)
    repeat any_goals (first | refine stW ?_ | exact lfW ff | refine ruW ff ?_ | refine cdW ff ?_ | ((first | refine bdW ff ?_ ?_ | refine bxW ff ?_ ?_ | refine bnW ff ?_ ?_ | refine brW ff ?_ ?_) <;> intro h <;> try (exfalso; first | omega | contradiction)))
  | [i], hR, hl =>
    simp only [findR] at hR
    subst hR
    have ff := (Tryz.results29)
    repeat any_goals (first | refine stW ?_ | exact lfW ff | refine ruW ff ?_ | refine cdW ff ?_ | ((first | refine bdW ff ?_ ?_ | refine bxW ff ?_ ?_ | refine bnW ff ?_ ?_ | refine brW ff ?_ ?_) <;> intro h <;> try (exfalso; first | omega | contradiction)))
  | i :: j :: r, hR, hl =>
    simp only [findR] at hR
    have h2 : ¬ ((r.length : Int) + 1 + 1 < 2) := by omega
    have h2' : (2 : Int) ≤ (r.length : Int) + 1 + 1 := by omega
    have hk1 := nokk_at n hok
    have hnl := nrows_len n.kids
    cases hk : kidN n i with
    | none =>
      rw [hk] at hR
      simp only at hR
      subst hR
      have := kid_none hk
      by_cases hi : i < 0
      · have ff := (cj @h2 <| cj @h2' <| cj @hi <| cj @hz <| Tryz.results29)
        repeat any_goals (first | refine stW ?_ | exact lfW ff | refine ruW ff ?_ | refine cdW ff ?_ | ((first | refine bdW ff ?_ ?_ | refine bxW ff ?_ ?_ | refine bnW ff ?_ ?_ | refine brW ff ?_ ?_) <;> intro h <;> try (exfalso; first | omega | contradiction)))
      · have hi2 : (n.kids.length : Int) ≤ i := by omega
        have ff := (cj @h2 <| cj @h2' <| cj @hi <| cj @hi2 <| cj @hnl <| cj @hz <| Tryz.results29)
        repeat any_goals (first | refine stW ?_ | exact lfW ff | refine ruW ff ?_ | refine cdW ff ?_ | ((first | refine bdW ff ?_ ?_ | refine bxW ff ?_ ?_ | refine bnW ff ?_ ?_ | refine brW ff ?_ ?_) <;> intro h <;> try (exfalso; first | omega | contradiction)))
    | some m =>
      rw [hk] at hR
      simp only at hR
      have hokm := nokk_kid hok hk
      obtain ⟨a, rfl, ha, hra, _⟩ := kid_some hk
      have hra' := gx hra
      have ha0 : ¬ ((a : Int) < 0) := by omega
      have ha2 : ¬ ((n.kids.length : Int) ≤ (a : Int)) := by omega
      have ha3 : ¬ (n.kids.length ≤ a) := by omega
      have hml := nrows_len m.kids
      cases hj : kidN m j with
      | none =>
        rw [hj] at hR
        simp only at hR
        subst hR
        have := kid_none hj
        by_cases hi : j < 0
        · have ff := (cj @h2 <| cj @h2' <| cj @ha <| cj @ha0 <| cj @ha2 <| cj @ha3 <| cj @hra <| cj @hra' <| cj @hnl <| cj @hi <| cj @hz <| Tryz.results29)
          repeat any_goals (first | refine stW ?_ | exact lfW ff | refine ruW ff ?_ | refine cdW ff ?_ | ((first | refine bdW ff ?_ ?_ | refine bxW ff ?_ ?_ | refine bnW ff ?_ ?_ | refine brW ff ?_ ?_) <;> intro h <;> try (exfalso; first | omega | contradiction)))
        · have hi2 : (m.kids.length : Int) ≤ j := by omega
          have ff := (cj @h2 <| cj @h2' <| cj @ha <| cj @ha0 <| cj @ha2 <| cj @ha3 <| cj @hra <| cj @hra' <| cj @hnl <| cj @hi <| cj @hi2 <| cj @hml <| cj @hz <| Tryz.results29)
          repeat any_goals (first | refine stW ?_ | exact lfW ff | refine ruW ff ?_ | refine cdW ff ?_ | ((first | refine bdW ff ?_ ?_ | refine bxW ff ?_ ?_ | refine bnW ff ?_ ?_ | refine brW ff ?_ ?_) <;> intro h <;> try (exfalso; first | omega | contradiction)))
      | some q =>
        rw [hj] at hR
        simp only at hR
        have hokq := nokk_kid hokm hj
        obtain ⟨b, rfl, hb, hrb, _⟩ := kid_some hj
        have hrb' := gx hrb
        have hb0 : ¬ ((b : Int) < 0) := by omega
        have hb2 : ¬ ((m.kids.length : Int) ≤ (b : Int)) := by omega
        have hb3 : ¬ (m.kids.length ≤ b) := by omega
        have ff := (cj @h2 <| cj @h2' <| cj @ha <| cj @ha0 <| cj @ha2 <| cj @ha3 <| cj @hra <| cj @hra' <| cj @hnl <| cj @hb <| cj @hb0 <| cj @hb2 <| cj @hb3 <| cj @hrb <| cj @hrb' <| cj @hml <| Tryz.results29)
        repeat any_goals (first | refine stW ?_ | exact lfW ff | refine ruW ff ?_ | refine cdW ff ?_ | ((first | refine bdW ff ?_ ?_ | refine bxW ff ?_ ?_ | refine bnW ff ?_ ?_ | refine brW ff ?_ ?_) <;> intro h <;> try (exfalso; first | omega | contradiction)))
        rw [cut2 a b r]
        refine ⟨⟨(q, r), hR, hokq, by simp only [List.length_cons] at hl; show r.length ≤ 1000000; omega⟩, by simp only [List.length_cons]; omega, ?_⟩
        exact wd 2
end Go.Proofs.YteacdpklcopedaaGreat
