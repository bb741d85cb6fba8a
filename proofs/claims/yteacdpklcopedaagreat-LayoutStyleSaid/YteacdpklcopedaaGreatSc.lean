/-
  Row (layer 9), both sides.
-/
import Derived.Test.YteacdpklcopedaaGreatSb
import Derived.Test.YteacdpklcopedaaGreatNc
import Derived.Test.YteacdpklcopedaaGreatPe
import Derived.Test.YteacdpklcopedaaGreatPh
namespace Go.Proofs.YteacdpklcopedaaGreat
open Go.RowKit
set_option linter.unusedSimpArgs false
set_option linter.unusedVariables false
set_option maxRecDepth 100000

def rowR9 (n : Nd) (l : List Int) : Nd × Int := if n.validB = false then (zeroN, 1) else match findN n l with
  | some m => (m, 0)
  | none => (zeroN, 8)
def ndEV (r : Nd × Int) : V := .tup [ndV r.1, .c (.int .i64 r.2)]
mutual
theorem ncnt_kid_le : ∀ (l : List Nd) (m : Nd), m ∈ l → m.cnt ≤ Nd.cnts l
  | b :: l, m, h => by
    simp only [Nd.cnts]
    rcases List.mem_cons.1 h with rfl | h
    · omega
    · have := ncnt_kid_le l m h; omega
end
theorem findN_cnt : ∀ (n : Nd) (l : List Int) (m : Nd), findN n l = some m → m.cnt ≤ n.cnt
  | n, [], m, h => by simp only [findN, Option.some.injEq] at h; subst h; exact Nat.le_refl _
  | n, [_], m, h => by simp [findN] at h
  | n, i :: j :: r, m, h => by
    simp only [findN] at h
    cases hk : kidN n i with
    | none => rw [hk] at h; simp at h
    | some p =>
      rw [hk] at h
      simp only at h
      cases hj : kidN p j with
      | none => rw [hj] at h; simp at h
      | some q =>
        rw [hj] at h
        simp only at h
        have h1 := findN_cnt q r m h
        obtain ⟨a, _, _, _, ha⟩ := kid_some hk
        obtain ⟨b, _, _, _, hb⟩ := kid_some hj
        have h2 := ncnt_kid_le _ _ (List.mem_of_getElem? hb)
        have h3 := ncnt_kid_le _ _ (List.mem_of_getElem? ha)
        have h4 := ncnt_at n
        have h5 := ncnt_at p
        omega
theorem rrow9_a (n : Nd) (l : List Int) (hok : n.okk) (hc : n.cnt ≤ 100000) (hl : l.length ≤ 1000000) : AC Tryz.prog 18 [ndV n, .c (intsC l)] (ndEV (rowR9 n l)) := by
  have hv := rvalid9_a n hok hc
  have hf := rfind9_a n l hok hl
  have hz : zeroN.vs = [.c (.int .i64 0), .c (.str ⟨#[]⟩), .c (.int .i64 0), .c (.sl [])] := rfl
  obtain ⟨L, hL⟩ : ∃ L, intsC l = L := ⟨_, rfl⟩
  rw [hL] at hf ⊢
  obtain ⟨k1, k2⟩ := findR_ok n l
  unfold rowR9 ndEV
  cases hvb : n.validB with
  | false =>
    rw [hvb] at hv
    simp only [if_true]
    unfold ndV at *
    refine en Tryz.func18 Tryz.ntmps18 ?_
    have ff := (cj @hz <| Tryz.results18)
    repeat any_goals (first | refine stW ?_ | exact lfW ff | refine ruW ff ?_ | refine caW ff (hv) ?_ | refine cdW ff ?_ | ((first | refine bdW ff ?_ ?_ | refine bxW ff ?_ ?_ | refine bnW ff ?_ ?_ | refine brW ff ?_ ?_) <;> intro h <;> try (exfalso; first | omega | contradiction)))
  | true =>
    rw [hvb] at hv
    simp only [Bool.true_eq_false, if_false]
    cases hfn : findN n l with
    | none =>
      have := k2 hfn
      obtain ⟨⟨p, b⟩, hp⟩ : ∃ p, findR n l = p := ⟨_, rfl⟩
      rw [hp] at hf this
      simp only at hf this
      subst this
      unfold ndV at *
      refine en Tryz.func18 Tryz.ntmps18 ?_
      have ff := (cj @hz <| Tryz.results18)
      repeat any_goals (first | refine stW ?_ | exact lfW ff | refine ruW ff ?_ | refine caW ff (hv) ?_ | refine caW ff (hf) ?_ | refine cdW ff ?_ | ((first | refine bdW ff ?_ ?_ | refine bxW ff ?_ ?_ | refine bnW ff ?_ ?_ | refine brW ff ?_ ?_) <;> intro h <;> try (exfalso; first | omega | contradiction)))
    | some m =>
      rw [k1 m hfn] at hf
      simp only at hf ⊢
      unfold ndV at *
      refine en Tryz.func18 Tryz.ntmps18 ?_
      have ff := (Tryz.results18)
      repeat any_goals (first | refine stW ?_ | exact lfW ff | refine ruW ff ?_ | refine caW ff (hv) ?_ | refine caW ff (hf) ?_ | refine cdW ff ?_ | ((first | refine bdW ff ?_ ?_ | refine bxW ff ?_ ?_ | refine bnW ff ?_ ?_ | refine brW ff ?_ ?_) <;> intro h <;> try (exfalso; first | omega | contradiction)))
theorem prow9_a (n : Nd) (l : List Int) (hok : n.okk) (hc : n.cnt ≤ 100000) (hl : l.length ≤ 1000000) : AC Tryz.prog 14 [ndV n, .c (intsC l)] (ndEV (rowR9 n l)) := by
  have hv := pvalid9_a n hok (by omega)
  have hf := pfind9_a n l hok hl
  have hz : zeroN.vs = [.c (.int .i64 0), .c (.str ⟨#[]⟩), .c (.int .i64 0), .c (.sl [])] := rfl
  obtain ⟨L, hL⟩ : ∃ L, intsC l = L := ⟨_, rfl⟩
  rw [hL] at hf ⊢
  obtain ⟨k1, k2⟩ := findP_ok n l
  unfold rowR9 ndEV
  cases hvb : n.validB with
  | false =>
    rw [hvb] at hv
    simp only [if_true]
    unfold ndV at *
    refine en Tryz.func14 Tryz.ntmps14 ?_
    have ff := (cj @hz <| Tryz.results14)
    repeat any_goals (first | refine stW ?_ | exact lfW ff | refine ruW ff ?_ | refine caW ff (hv) ?_ | refine cdW ff ?_ | ((first | refine bdW ff ?_ ?_ | refine bxW ff ?_ ?_ | refine bnW ff ?_ ?_ | refine brW ff ?_ ?_) <;> intro h <;> try (exfalso; first | omega | contradiction)))
  | true =>
    rw [hvb] at hv
    simp only [Bool.true_eq_false, if_false]
    cases hfn : findN n l with
    | none =>
      have := k2 hfn
      obtain ⟨⟨p, b⟩, hp⟩ : ∃ p, findP n l = p := ⟨_, rfl⟩
      rw [hp] at hf this
      simp only at hf this
      subst this
      unfold ndV at *
      refine en Tryz.func14 Tryz.ntmps14 ?_
      have ff := (Tryz.results14)
      repeat any_goals (first | refine stN (RegN.mk 3) ?_ | exact lfW ff | refine ruW ff ?_ | refine caW ff (hv) ?_ | refine cdW ff ?_ | ((first | refine bdW ff ?_ ?_ | refine bxW ff ?_ ?_ | refine bnW ff ?_ ?_ | refine brW ff ?_ ?_) <;> intro h <;> try (exfalso; first | omega | contradiction)))
      refine AW.frz 0 rfl (by simp [toCs, toC]; exact rfl) (by simp [V.frzs, V.frz]; exact rfl) (by simp [O.frz, V.frzs, V.frz]; exact rfl) ?_
      have ff := (cj @hz <| Tryz.results14)
      repeat any_goals (first | refine stW ?_ | exact lfW ff | refine ruW ff ?_ | refine caW ff (hf) ?_ | refine cdW ff ?_ | ((first | refine bdW ff ?_ ?_ | refine bxW ff ?_ ?_ | refine bnW ff ?_ ?_ | refine brW ff ?_ ?_) <;> intro h <;> try (exfalso; first | omega | contradiction)))
    | some m =>
      have hd := DN.deepNode_a m (by have := findN_cnt n l m hfn; omega)
      rw [k1 m hfn] at hf
      simp only at hf ⊢
      unfold ndV at *
      refine en Tryz.func14 Tryz.ntmps14 ?_
      have ff := (Tryz.results14)
      repeat any_goals (first | refine stN (RegN.mk 3) ?_ | exact lfW ff | refine ruW ff ?_ | refine caW ff (hv) ?_ | refine cdW ff ?_ | ((first | refine bdW ff ?_ ?_ | refine bxW ff ?_ ?_ | refine bnW ff ?_ ?_ | refine brW ff ?_ ?_) <;> intro h <;> try (exfalso; first | omega | contradiction)))
      refine AW.frz 0 rfl (by simp [toCs, toC]; exact rfl) (by simp [V.frzs, V.frz]; exact rfl) (by simp [O.frz, V.frzs, V.frz]; exact rfl) ?_
      have ff := (Tryz.results14)
      repeat any_goals (first | refine stW ?_ | exact lfW ff | refine ruW ff ?_ | refine caW ff (hf) ?_ | refine caW ff (hd) ?_ | refine cdW ff ?_ | ((first | refine bdW ff ?_ ?_ | refine bxW ff ?_ ?_ | refine bnW ff ?_ ?_ | refine brW ff ?_ ?_) <;> intro h <;> try (exfalso; first | omega | contradiction)))
end Go.Proofs.YteacdpklcopedaaGreat
