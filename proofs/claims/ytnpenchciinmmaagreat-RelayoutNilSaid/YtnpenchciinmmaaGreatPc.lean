/-
  Texts of nodes on the abstract machine: the reference's checks.
-/
import Derived.Test.YtnpenchciinmmaaGreatPb
namespace Go.Proofs.YtnpenchciinmmaaGreat
open Go.RowKit
set_option linter.unusedSimpArgs false
set_option linter.unusedVariables false
set_option maxRecDepth 100000

theorem byte_at {s : ByteArray} {k : Nat} (h : k < s.size) : ∃ b, s.data.toList[k]? = some b ∧ s.data[k]? = some b ∧ s.data.toList.drop k = b :: s.data.toList.drop (k + 1) ∧ (k : Int) < (s.size : Int) ∧ (b.toNat < 256) := by
  have hl : k < s.data.toList.length := by simpa using h
  refine ⟨s.data.toList[k], List.getElem?_eq_getElem hl, ?_, List.drop_eq_getElem_cons hl, by omega, UInt8.toNat_lt _⟩
  rw [← Array.getElem?_toList]; exact List.getElem?_eq_getElem hl
theorem byte_end {s : ByteArray} {k : Nat} (h : ¬ k < s.size) : s.data.toList.drop k = [] := List.drop_of_length_le (by simp; omega)
def txtsC (l : List ByteArray) : C := .sl (l.map fun t => [.str t])
theorem numF_le (n : Nat) : ∀ (l : List UInt8) (k : Nat) (p q : Int), numF n l k p = some q → p ≤ q := fun l k p q h => (numF_cnt n l k p q h).1
end Go.Proofs.YtnpenchciinmmaaGreat
