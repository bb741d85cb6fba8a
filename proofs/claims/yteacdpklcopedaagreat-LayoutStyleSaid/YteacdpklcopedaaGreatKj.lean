/-
  Layer 38 is awake: the kernel runs it.
-/
import Derived.Test.YteacdpklcopedaaGreatKi
import Derived.Test.YteacdpklcopedaaGreatQb
import Derived.KernelRfl
namespace Go.Proofs.YteacdpklcopedaaGreat
set_option linter.unusedSimpArgs false
set_option linter.unusedVariables false

def unInts : List (List C) → Option (List Int)
  | [] => some []
  | [.int .i64 n] :: r => match unInts r with
    | some l => some (n :: l)
    | none => none
  | _ => none
theorem unInts_ok : ∀ {r : List (List C)} {l : List Int}, unInts r = some l → r = l.map fun n => [C.int .i64 n]
  | [], l, h => by cases h; rfl
  | [.int .i64 n] :: r, l, h => by
    simp only [unInts] at h
    split at h
    · rename_i l' hl
      cases h
      rw [unInts_ok hl]
      rfl
    · cases h
  | [.int .i8 n] :: r, l, h => by simp [unInts] at h
  | [.int .i16 n] :: r, l, h => by simp [unInts] at h
  | [.int .i32 n] :: r, l, h => by simp [unInts] at h
  | [.int .u8 n] :: r, l, h => by simp [unInts] at h
  | [.int .u16 n] :: r, l, h => by simp [unInts] at h
  | [.int .u32 n] :: r, l, h => by simp [unInts] at h
  | [.int .u64 n] :: r, l, h => by simp [unInts] at h
  | [.bool _] :: r, l, h => by simp [unInts] at h
  | [.str _] :: r, l, h => by simp [unInts] at h
  | [.nilp] :: r, l, h => by simp [unInts] at h
  | [.nilf] :: r, l, h => by simp [unInts] at h
  | [.fnc _] :: r, l, h => by simp [unInts] at h
  | [.mref _] :: r, l, h => by simp [unInts] at h
  | [.sl _] :: r, l, h => by simp [unInts] at h
  | [] :: r, l, h => by simp [unInts] at h
  | (_ :: _ :: _) :: r, l, h => by simp [unInts] at h
def hkClone : List V → Option V
  | [.c (.sl r)] => match unInts r with
    | some l => if Nat.ble l.length 1000 then some (.c (.sl r)) else none
    | none => none
  | _ => none
def hkConcat : List V → Option V
  | [.c (.sl [[.sl a], [.sl b]])] => match unInts a, unInts b with
    | some x, some y => if Nat.ble x.length 1000 && Nat.ble y.length 1000 && Nat.blt 0 y.length then some (.c (.sl (a ++ b))) else none
    | _, _ => none
  | _ => none
theorem hkClone_ok {args : List V} {v : V} (h : hkClone args = some v) : AC Tryz.prog 108 args v := by
  unfold hkClone at h
  split at h
  · rename_i r
    split at h
    · rename_i l hl
      split at h
      · rename_i hn
        cases h
        have := clone_a l (by have := Nat.le_of_ble_eq_true hn; omega)
        unfold intsC at this
        rw [← unInts_ok hl] at this
        exact this
      · cases h
    · cases h
  · cases h
theorem hkConcat_ok {args : List V} {v : V} (h : hkConcat args = some v) : AC Tryz.prog 69 args v := by
  unfold hkConcat at h
  split at h
  · rename_i a b
    split at h
    · rename_i x y hx hy
      split at h
      · rename_i hn
        cases h
        simp only [Bool.and_eq_true] at hn
        obtain ⟨⟨h1, h2⟩, h3⟩ := hn
        have h1 := Nat.le_of_ble_eq_true h1
        have h2 := Nat.le_of_ble_eq_true h2
        have h3 : 0 < y.length := Nat.blt_eq.mp h3
        have := concat_a x y (by omega) (by omega) h3
        unfold intsC at this
        rw [List.map_append, ← unInts_ok hx, ← unInts_ok hy] at this
        exact this
      · cases h
    · cases h
  · cases h
def hkA : Hooks :=
  { ac := fun f args => if Nat.beq f 108 then hkClone args else if Nat.beq f 69 then hkConcat args else none
    fz := fun f => Nat.beq f 35 || Nat.beq f 183
    ca := fun f => Nat.beq f 34 }
theorem hkA_ok : HkOk Tryz.prog hkA := by
  refine ⟨fun f a v h => ?_, fun f h => ?_⟩
  · simp only [hkA] at h
    split at h
    · rename_i hf
      have hf := Nat.eq_of_beq_eq_true hf
      subst hf
      exact ⟨hkClone_ok h, by kernel_rfl⟩
    · split at h
      · rename_i hf
        have hf := Nat.eq_of_beq_eq_true hf
        subst hf
        exact ⟨hkConcat_ok h, by kernel_rfl⟩
      · cases h
  · have hf := Nat.eq_of_beq_eq_true h
    subst hf
    exact ⟨by kernel_rfl, fun g caps l hac hok hl h1 => catch_ac g caps l hac hok hl h1⟩
theorem awake38_run : runJ Tryz.prog hkA 100000 (.call 4 [] []) = some ⟨.ret, ⟨[.c (.bool true)], []⟩⟩ := by kernel_rfl
theorem awake38_a : AC Tryz.prog 4 [] (.c (.bool true)) := AC.run hkA_ok 100000 awake38_run rfl
end Go.Proofs.YteacdpklcopedaaGreat
