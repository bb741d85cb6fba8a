/-
  Layer 39 is awake: the kernel runs it.
-/
import Derived.Test.YtnpenchciinmmaaGreatKn
namespace Go.Proofs.YtnpenchciinmmaaGreat
set_option linter.unusedSimpArgs false
set_option linter.unusedVariables false

def hkB : Hooks :=
  { ac := fun f args => if Nat.beq f 21 then hkNode args else
      if Nat.beq f 22 then hkBox args else
      if Nat.beq f 33 then hkRows 6 args else
      if Nat.beq f 34 then hkRows 4 args else
      if Nat.beq f 20 then hkRows 4 args else
      if Nat.beq f 37 then hkClone args else
      if Nat.beq f 85 then hkConcat args else
      if Nat.beq f 95 then hkConcatN args else
      none
    fz := fun f => Nat.beq f 52 || Nat.beq f 190
    ca := fun f => Nat.beq f 51 }
theorem hkB_ok : HkOk Tryz.prog hkB := by
  refine ⟨fun f a v h => ?_, fun f h => ?_⟩
  · simp only [hkB] at h
    split at h
    · rename_i hf
      have hf := Nat.eq_of_beq_eq_true hf
      subst hf
      exact ⟨hkNode_ok h, by kernel_rfl⟩
    split at h
    · rename_i hf
      have hf := Nat.eq_of_beq_eq_true hf
      subst hf
      exact ⟨hkBox_ok h, by kernel_rfl⟩
    split at h
    · rename_i hf
      have hf := Nat.eq_of_beq_eq_true hf
      subst hf
      exact ⟨(by obtain ⟨r, rfl, rfl, h1, h2⟩ := hkRows_ok h; exact cloneG_a r h1 h2), by kernel_rfl⟩
    split at h
    · rename_i hf
      have hf := Nat.eq_of_beq_eq_true hf
      subst hf
      exact ⟨(by obtain ⟨r, rfl, rfl, h1, h2⟩ := hkRows_ok h; exact cloneS_a r h1 h2), by kernel_rfl⟩
    split at h
    · rename_i hf
      have hf := Nat.eq_of_beq_eq_true hf
      subst hf
      exact ⟨(by obtain ⟨r, rfl, rfl, h1, h2⟩ := hkRows_ok h; exact cloneE_a r h1 h2), by kernel_rfl⟩
    split at h
    · rename_i hf
      have hf := Nat.eq_of_beq_eq_true hf
      subst hf
      exact ⟨hkClone_ok h, by kernel_rfl⟩
    split at h
    · rename_i hf
      have hf := Nat.eq_of_beq_eq_true hf
      subst hf
      exact ⟨hkConcat_ok h, by kernel_rfl⟩
    split at h
    · rename_i hf
      have hf := Nat.eq_of_beq_eq_true hf
      subst hf
      exact ⟨hkConcatN_ok h, by kernel_rfl⟩
    cases h
  · have hf := Nat.eq_of_beq_eq_true h
    subst hf
    exact ⟨by kernel_rfl, fun g caps l hac hok hl h1 => catch_ac g caps l hac hok hl h1⟩
theorem awake39_run : runJ Tryz.prog hkB 100000 (.call 4 [] []) = some ⟨.ret, ⟨[.c (.bool true)], []⟩⟩ := by kernel_rfl
theorem awake39_a : AC Tryz.prog 4 [] (.c (.bool true)) := AC.run hkB_ok 100000 awake39_run rfl
end Go.Proofs.YtnpenchciinmmaaGreat
