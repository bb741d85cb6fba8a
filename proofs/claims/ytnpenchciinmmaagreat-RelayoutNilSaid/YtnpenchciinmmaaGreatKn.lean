/-
  Calls that the evaluator answers by contracts: copies of trees and boxes, of rows; rows joined.
-/
import Derived.Test.YtnpenchciinmmaaGreatKi
import Derived.Test.YtnpenchciinmmaaGreatKl
import Derived.Test.YtnpenchciinmmaaGreatKm
import Derived.Test.YtnpenchciinmmaaGreatNc
import Derived.Test.YtnpenchciinmmaaGreatNd
import Derived.Test.YtnpenchciinmmaaGreatQb
import Derived.KernelRfl
namespace Go.Proofs.YtnpenchciinmmaaGreat
set_option linter.unusedSimpArgs false
set_option linter.unusedVariables false

def unCs : List V → Option (List C)
  | [] => some []
  | v :: r => match v with
    | .c c => match unCs r with
      | some l => some (c :: l)
      | none => none
    | _ => none
theorem unCs_ok : ∀ {l : List V} {cs : List C}, unCs l = some cs → l = cs.map V.c
  | [], cs, h => by cases h; rfl
  | v :: r, cs, h => by
    simp only [unCs] at h
    split at h
    · split at h
      · rename_i l hl
        cases h
        rw [unCs_ok hl]
        rfl
      · cases h
    · cases h
def IntKind.beq64 : IntKind → Bool
  | .i64 => true
  | _ => false
theorem beq64_ok {k : IntKind} (h : IntKind.beq64 k = true) : k = .i64 := by cases k <;> first | rfl | cases h
def unInts : List (List C) → Option (List Int)
  | [] => some []
  | r :: rs => match r with
    | [c] => match c with
      | .int k n => if IntKind.beq64 k then (match unInts rs with
        | some l => some (n :: l)
        | none => none) else none
      | _ => none
    | _ => none
theorem unInts_ok : ∀ {r : List (List C)} {l : List Int}, unInts r = some l → r = l.map fun n => [C.int .i64 n]
  | [], l, h => by cases h; rfl
  | r :: rs, l, h => by
    simp only [unInts] at h
    split at h
    · split at h
      · split at h
        · rename_i hk
          split at h
          · rename_i l' hl
            cases h
            rw [unInts_ok hl, beq64_ok hk]
            rfl
          · cases h
        · cases h
      · cases h
    · cases h
def mapO {α : Type} (g : List C → Option α) : List (List C) → Option (List α)
  | [] => some []
  | r :: l => match g r, mapO g l with
    | some a, some s => some (a :: s)
    | _, _ => none
theorem mapO_ok {α : Type} {g : List C → Option α} {R : α → List C} {Q : α → Prop} (hg : ∀ r a, g r = some a → r = R a ∧ Q a) : ∀ {l : List (List C)} {s : List α}, mapO g l = some s → l = s.map R ∧ ∀ a ∈ s, Q a
  | [], s, h => by cases h; exact ⟨rfl, by simp⟩
  | r :: l, s, h => by
    simp only [mapO] at h
    split at h
    · rename_i a s' h1 h2
      cases h
      obtain ⟨e1, e2⟩ := hg _ _ h1
      obtain ⟨e3, e4⟩ := mapO_ok hg h2
      exact ⟨by rw [e1, e3]; rfl, by simpa using ⟨e2, e4⟩⟩
    · cases h
def unNd : Nat → List C → Option Nd
  | 0, _ => none
  | f + 1, r => match r with
    | [a, b, c, d] => match a, b, c, d with
      | .int k1 k, .str t, .int k2 n, .sl rows => if IntKind.beq64 k1 && IntKind.beq64 k2 then (match mapO (unNd f) rows with
        | some kids => some ⟨k, t, n, kids⟩
        | none => none) else none
      | _, _, _, _ => none
    | _ => none
theorem unNd_ok : ∀ (f : Nat) (r : List C) (b : Nd), unNd f r = some b → r = b.row ∧ True
  | 0, r, b, h => by cases h
  | f + 1, r, b, h => by
    simp only [unNd] at h
    split at h
    · split at h
      · split at h
        · rename_i hk
          simp only [Bool.and_eq_true] at hk
          split at h
          · rename_i kids hl
            cases h
            rw [beq64_ok hk.1, beq64_ok hk.2, (mapO_ok (unNd_ok f) hl).1, ← nrows_map]
            exact ⟨rfl, trivial⟩
          · cases h
        · cases h
      · cases h
    · cases h
def unBox : Nat → List C → Option Box
  | 0, _ => none
  | f + 1, r => match r with
    | [a0, a1, a2, a3, a4, a5, a6, a7, a8, a9, a10] => match a0, a1, a2, a3, a4, a5, a6, a7 with
      | .int k0 n0, .str n1, .int k2 n2, .int k3 n3, .int k4 n4, .int k5 n5, .int k6 n6, .int k7 n7 => match a8, a9, a10 with
        | .sl rows, .int k9 n9, .sl src =>
          if (((((((IntKind.beq64 k0 && IntKind.beq64 k2) && IntKind.beq64 k3) && IntKind.beq64 k4) && IntKind.beq64 k5) && IntKind.beq64 k6) && IntKind.beq64 k7) && IntKind.beq64 k9) && Nat.ble src.length 1000 then (match mapO (unBox f) rows, unInts src with
            | some kids, some s => some ⟨n0, n1, n2, n3, n4, n5, n6, n7, kids, n9, s⟩
            | _, _ => none) else none
        | _, _, _ => none
      | _, _, _, _, _, _, _, _ => none
    | _ => none
theorem doks_of : ∀ {l : List Box}, (∀ b ∈ l, b.dok) → Box.doks l
  | [], _ => trivial
  | b :: l, h => ⟨h b (by simp), doks_of fun a ha => h a (by simp [ha])⟩
theorem unBox_ok : ∀ (f : Nat) (r : List C) (b : Box), unBox f r = some b → r = b.row ∧ b.dok
  | 0, r, b, h => by cases h
  | f + 1, r, b, h => by
    simp only [unBox] at h
    split at h
    · split at h
      · split at h
        · split at h
          · rename_i hk
            simp only [Bool.and_eq_true] at hk
            obtain ⟨⟨⟨⟨⟨⟨⟨⟨h0, h2⟩, h3⟩, h4⟩, h5⟩, h6⟩, h7⟩, h9⟩, hs⟩ := hk
            split at h
            · rename_i kids s hl hss
              cases h
              obtain ⟨e1, e2⟩ := mapO_ok (unBox_ok f) hl
              have e3 := unInts_ok hss
              have hs := Nat.le_of_ble_eq_true hs
              rw [beq64_ok h0, beq64_ok h2, beq64_ok h3, beq64_ok h4, beq64_ok h5, beq64_ok h6, beq64_ok h7, beq64_ok h9, e1, ← rows_map, e3]
              refine ⟨rfl, ?_, doks_of e2⟩
              rw [e3, List.length_map] at hs
              omega
            · cases h
          · cases h
        · cases h
      · cases h
    · cases h
def hkNode : List V → Option V
  | [.agg l] => match unCs l with
    | some r => match unNd 20 r with
      | some b => if Nat.blt b.cnt 100 then some (.agg l) else none
      | none => none
    | none => none
  | _ => none
theorem hkNode_ok {args : List V} {v : V} (h : hkNode args = some v) : AC Tryz.prog 21 args v := by
  unfold hkNode at h
  split at h
  · split at h
    · rename_i l r hr
      split at h
      · rename_i b hb
        split at h
        · rename_i hc
          cases h
          have := DN.deepNode_a b (by have := Nat.blt_eq.mp hc; omega)
          unfold ndV Nd.vs at this
          rw [← (unNd_ok _ _ _ hb).1, ← unCs_ok hr] at this
          exact this
        · cases h
      · cases h
    · cases h
  · cases h
def hkBox : List V → Option V
  | [.agg l] => match unCs l with
    | some r => match unBox 20 r with
      | some b => if Nat.blt b.cnt 100 then some (.agg l) else none
      | none => none
    | none => none
  | _ => none
theorem hkBox_ok {args : List V} {v : V} (h : hkBox args = some v) : AC Tryz.prog 22 args v := by
  unfold hkBox at h
  split at h
  · split at h
    · rename_i l r hr
      split at h
      · rename_i b hb
        split at h
        · rename_i hc
          cases h
          have := deep_a b (unBox_ok _ _ _ hb).2 (by have := Nat.blt_eq.mp hc; omega)
          unfold boxV at this
          rw [← (unBox_ok _ _ _ hb).1, ← unCs_ok hr] at this
          exact this
        · cases h
      · cases h
    · cases h
  · cases h
def rowsL (n : Nat) : List (List C) → Bool
  | [] => true
  | r :: l => Nat.beq r.length n && rowsL n l
theorem rowsL_ok {n : Nat} : ∀ {l : List (List C)}, rowsL n l = true → ∀ r ∈ l, r.length = n
  | [], _, r, hr => by cases hr
  | a :: l, h, r, hr => by
    simp only [rowsL, Bool.and_eq_true] at h
    rcases List.mem_cons.1 hr with rfl | hr
    · exact Nat.eq_of_beq_eq_true h.1
    · exact rowsL_ok h.2 r hr
/-- rows of n cells, copied -/
def hkRows (n : Nat) : List V → Option V
  | [.c (.sl r)] => if Nat.ble r.length 1000 && rowsL n r then some (.c (.sl r)) else none
  | _ => none
theorem hkRows_ok {n : Nat} {args : List V} {v : V} (h : hkRows n args = some v) : ∃ r, args = [.c (.sl r)] ∧ v = .c (.sl r) ∧ r.length ≤ 1000000 ∧ ∀ x ∈ r, x.length = n := by
  unfold hkRows at h
  split at h
  · split at h
    · rename_i r hc
      cases h
      simp only [Bool.and_eq_true] at hc
      exact ⟨r, rfl, rfl, by have := Nat.le_of_ble_eq_true hc.1; omega, rowsL_ok hc.2⟩
    · cases h
  · cases h
def hkClone : List V → Option V
  | [.c (.sl r)] => match unInts r with
    | some l => if Nat.ble l.length 1000 then some (.c (.sl r)) else none
    | none => none
  | _ => none
theorem hkClone_ok {args : List V} {v : V} (h : hkClone args = some v) : AC Tryz.prog 37 args v := by
  unfold hkClone at h
  split at h
  · split at h
    · rename_i r l hl
      split at h
      · rename_i hn
        cases h
        have := clone_a l (by have := Nat.le_of_ble_eq_true hn; omega)
        unfold intsC at this
        rw [← unInts_ok hl] at this
        exact this
      · cases h
    · cases h
  · cases h
def hkConcat : List V → Option V
  | [.c (.sl [[.sl a], [.sl b]])] => match unInts a, unInts b with
    | some x, some y => if Nat.ble x.length 1000 && Nat.ble y.length 1000 && Nat.blt 0 y.length then some (.c (.sl (a ++ b))) else none
    | _, _ => none
  | _ => none
theorem hkConcat_ok {args : List V} {v : V} (h : hkConcat args = some v) : AC Tryz.prog 85 args v := by
  unfold hkConcat at h
  split at h
  · split at h
    · rename_i a b x y hx hy
      split at h
      · rename_i hn
        cases h
        simp only [Bool.and_eq_true] at hn
        obtain ⟨⟨h1, h2⟩, h3⟩ := hn
        have h1 := Nat.le_of_ble_eq_true h1
        have h2 := Nat.le_of_ble_eq_true h2
        have h3 : 0 < y.length := Nat.blt_eq.mp h3
        have := concat_a x y (by omega) (by omega) h3
        unfold intsC at this
        rw [List.map_append, ← unInts_ok hx, ← unInts_ok hy] at this
        exact this
      · cases h
    · cases h
  · cases h
def hkConcatN : List V → Option V
  | [.c (.sl [[.sl a], [.sl b], [.sl d]])] => if (((Nat.ble a.length 1000 && Nat.ble b.length 1000) && Nat.ble d.length 1000) && Nat.blt 0 (a.length + b.length + d.length)) && ((rowsL 4 a && rowsL 4 b) && rowsL 4 d) then some (.c (.sl (a ++ b ++ d))) else none
  | _ => none
theorem hkConcatN_ok {args : List V} {v : V} (h : hkConcatN args = some v) : AC Tryz.prog 95 args v := by
  unfold hkConcatN at h
  split at h
  · split at h
    · rename_i a b d hn
      cases h
      simp only [Bool.and_eq_true] at hn
      obtain ⟨⟨⟨⟨h1, h2⟩, h3⟩, h4⟩, ⟨h5, h6⟩, h7⟩ := hn
      have h1 := Nat.le_of_ble_eq_true h1
      have h2 := Nat.le_of_ble_eq_true h2
      have h3 := Nat.le_of_ble_eq_true h3
      exact concatN_a a b d (by omega) (by omega) (by omega) (Nat.blt_eq.mp h4) (rowsL_ok h5) (rowsL_ok h6) (rowsL_ok h7)
    · cases h
  · cases h
end Go.Proofs.YtnpenchciinmmaaGreat
