/-
 A font as a law's input. (Printed by mkoq.py.)
-/
import Derived.Test.YthbcljjpmdfflaaGreatOp
import Derived.Test.YthbcljjpmdfflaaGreatG6
namespace Go.Proofs.YthbcljjpmdfflaaGreat
open Go.RowKit
set_option linter.unusedSimpArgs false
set_option linter.unusedVariables false
set_option maxRecDepth 100000
section
variable {H : Type} {enc : TypeId × Value → H} {w : World}
theorem op_glyph {fuel : Nat} : OpAt enc Tryz.prog w fuel 57 Glyph.row (fun g => g.name.size ≤ maxLen) := by
 cases fuel with
 | zero => exact OpAt.zero
 | succ fuel => exact (op_struct Tryz.underlying57 (by kernel_rfl) (OpF.cons (o := 0) (o' := 1) rfl (by kernel_rfl) (by decide) (op_str Tryz.underlying9) (OpF.cons (o := 1) (o' := 2) rfl (by kernel_rfl) (by decide) (op_int Tryz.underlying3) (OpF.cons (o := 2) (o' := 3) rfl (by kernel_rfl) (by decide) (op_int Tryz.underlying3) (OpF.cons (o := 3) (o' := 4) rfl (by kernel_rfl) (by decide) (op_int Tryz.underlying3) (OpF.cons (o := 4) (o' := 5) rfl (by kernel_rfl) (by decide) (op_int Tryz.underlying3) (OpF.cons (o := 5) (o' := 6) rfl (by kernel_rfl) (by decide) (op_int Tryz.underlying3) (OpF.nil)))))))).conv (fun q => ⟨q.1, q.2.1, q.2.2.1, q.2.2.2.1, q.2.2.2.2.1, q.2.2.2.2.2.1⟩) (fun q => rfl) (fun q h => h.1)
theorem op_part {fuel : Nat} : OpAt enc Tryz.prog w fuel 92 Part.row (fun _ => True) := by
 cases fuel with
 | zero => exact OpAt.zero
 | succ fuel => exact (op_struct Tryz.underlying92 (by kernel_rfl) (OpF.cons (o := 0) (o' := 1) rfl (by kernel_rfl) (by decide) (op_str Tryz.underlying9) (OpF.cons (o := 1) (o' := 2) rfl (by kernel_rfl) (by decide) (op_bool Tryz.underlying4) (OpF.nil)))).conv (fun q => ⟨q.1, q.2.1⟩) (fun q => rfl) (fun q h => trivial)
theorem op_sizes {fuel : Nat} : OpAt enc Tryz.prog w fuel 58 (fun l : List ByteArray => [.sl (l.map fun s => [.str s])]) (fun l => l.length ≤ maxLen ∧ ∀ a ∈ l, a.size ≤ maxLen) := by
 cases fuel with
 | zero => exact OpAt.zero
 | succ fuel => exact op_sl (n := 1) Tryz.underlying58 (by kernel_rfl) (by decide) (op_str Tryz.underlying9)
theorem op_parts {fuel : Nat} : OpAt enc Tryz.prog w fuel 59 (fun l : List Part => [.sl (l.map Part.row)]) (fun l => l.length ≤ maxLen ∧ ∀ a ∈ l, True) := by
 cases fuel with
 | zero => exact OpAt.zero
 | succ fuel => exact op_sl (n := 2) Tryz.underlying59 (by kernel_rfl) (by decide) op_part
theorem op_stretch {fuel : Nat} : OpAt enc Tryz.prog w fuel 61 Stretch.row (fun s => s.name.size ≤ maxLen) := by
 cases fuel with
 | zero => exact OpAt.zero
 | succ fuel => exact (op_struct Tryz.underlying61 (by kernel_rfl) (OpF.cons (o := 0) (o' := 1) rfl (by kernel_rfl) (by decide) (op_str Tryz.underlying9) (OpF.cons (o := 1) (o' := 2) rfl (by kernel_rfl) (by decide) (op_sizes) (OpF.cons (o := 2) (o' := 3) rfl (by kernel_rfl) (by decide) (op_parts) (OpF.cons (o := 3) (o' := 4) rfl (by kernel_rfl) (by decide) (op_int Tryz.underlying3) (OpF.nil)))))).conv (fun q => ⟨q.1, q.2.1, q.2.2.1, q.2.2.2.1⟩) (fun q => rfl) (fun q h => h.1)
theorem op_glyphs {fuel : Nat} : OpAt enc Tryz.prog w fuel 22 (fun l : List Glyph => [.sl (l.map Glyph.row)]) (fun l => l.length ≤ maxLen ∧ ∀ a ∈ l, a.name.size ≤ maxLen) := by
 cases fuel with
 | zero => exact OpAt.zero
 | succ fuel => exact op_sl (n := 6) Tryz.underlying22 (by kernel_rfl) (by decide) op_glyph
theorem op_stretches {fuel : Nat} : OpAt enc Tryz.prog w fuel 23 (fun l : List Stretch => [.sl (l.map Stretch.row)]) (fun l => l.length ≤ maxLen ∧ ∀ a ∈ l, a.name.size ≤ maxLen) := by
 cases fuel with
 | zero => exact OpAt.zero
 | succ fuel => exact op_sl (n := 4) Tryz.underlying23 (by kernel_rfl) (by decide) op_stretch
theorem op_params {fuel : Nat} : OpAt enc Tryz.prog w fuel 25 (fun p : Params => p.list.map (C.int .i64)) (fun _ => True) := by
 cases fuel with
 | zero => exact OpAt.zero
 | succ fuel => exact (op_struct Tryz.underlying25 (by kernel_rfl) (OpF.cons (o := 0) (o' := 1) rfl (by kernel_rfl) (by decide) (op_int Tryz.underlying3) (OpF.cons (o := 1) (o' := 2) rfl (by kernel_rfl) (by decide) (op_int Tryz.underlying3) (OpF.cons (o := 2) (o' := 3) rfl (by kernel_rfl) (by decide) (op_int Tryz.underlying3) (OpF.cons (o := 3) (o' := 4) rfl (by kernel_rfl) (by decide) (op_int Tryz.underlying3) (OpF.cons (o := 4) (o' := 5) rfl (by kernel_rfl) (by decide) (op_int Tryz.underlying3) (OpF.cons (o := 5) (o' := 6) rfl (by kernel_rfl) (by decide) (op_int Tryz.underlying3) (OpF.cons (o := 6) (o' := 7) rfl (by kernel_rfl) (by decide) (op_int Tryz.underlying3) (OpF.cons (o := 7) (o' := 8) rfl (by kernel_rfl) (by decide) (op_int Tryz.underlying3) (OpF.cons (o := 8) (o' := 9) rfl (by kernel_rfl) (by decide) (op_int Tryz.underlying3) (OpF.cons (o := 9) (o' := 10) rfl (by kernel_rfl) (by decide) (op_int Tryz.underlying3) (OpF.cons (o := 10) (o' := 11) rfl (by kernel_rfl) (by decide) (op_int Tryz.underlying3) (OpF.cons (o := 11) (o' := 12) rfl (by kernel_rfl) (by decide) (op_int Tryz.underlying3) (OpF.cons (o := 12) (o' := 13) rfl (by kernel_rfl) (by decide) (op_int Tryz.underlying3) (OpF.cons (o := 13) (o' := 14) rfl (by kernel_rfl) (by decide) (op_int Tryz.underlying3) (OpF.cons (o := 14) (o' := 15) rfl (by kernel_rfl) (by decide) (op_int Tryz.underlying3) (OpF.cons (o := 15) (o' := 16) rfl (by kernel_rfl) (by decide) (op_int Tryz.underlying3) (OpF.cons (o := 16) (o' := 17) rfl (by kernel_rfl) (by decide) (op_int Tryz.underlying3) (OpF.cons (o := 17) (o' := 18) rfl (by kernel_rfl) (by decide) (op_int Tryz.underlying3) (OpF.cons (o := 18) (o' := 19) rfl (by kernel_rfl) (by decide) (op_int Tryz.underlying3) (OpF.cons (o := 19) (o' := 20) rfl (by kernel_rfl) (by decide) (op_int Tryz.underlying3) (OpF.nil)))))))))))))))))))))).conv (fun q => ⟨q.1, q.2.1, q.2.2.1, q.2.2.2.1, q.2.2.2.2.1, q.2.2.2.2.2.1, q.2.2.2.2.2.2.1, q.2.2.2.2.2.2.2.1, q.2.2.2.2.2.2.2.2.1, q.2.2.2.2.2.2.2.2.2.1, q.2.2.2.2.2.2.2.2.2.2.1, q.2.2.2.2.2.2.2.2.2.2.2.1, q.2.2.2.2.2.2.2.2.2.2.2.2.1, q.2.2.2.2.2.2.2.2.2.2.2.2.2.1, q.2.2.2.2.2.2.2.2.2.2.2.2.2.2.1, q.2.2.2.2.2.2.2.2.2.2.2.2.2.2.2.1, q.2.2.2.2.2.2.2.2.2.2.2.2.2.2.2.2.1, q.2.2.2.2.2.2.2.2.2.2.2.2.2.2.2.2.2.1, q.2.2.2.2.2.2.2.2.2.2.2.2.2.2.2.2.2.2.1, q.2.2.2.2.2.2.2.2.2.2.2.2.2.2.2.2.2.2.2.1⟩) (fun q => rfl) (fun q h => trivial)
theorem op_font {fuel : Nat} : OpAt enc Tryz.prog w fuel 27 Font.row Font.Fit := by
 cases fuel with
 | zero => exact OpAt.zero
 | succ fuel => exact (op_struct Tryz.underlying27 (by kernel_rfl) (OpF.cons (o := 0) (o' := 1) rfl (by kernel_rfl) (by decide) (op_glyphs) (OpF.cons (o := 1) (o' := 2) rfl (by kernel_rfl) (by decide) (op_stretches) (OpF.cons (o := 2) (o' := 22) rfl (by kernel_rfl) (by decide) (op_params) (OpF.nil))))).conv (fun q => ⟨q.1, q.2.1, q.2.2.1⟩) (fun q => by simp [Font.row, glyphsC, stretchesC]) (fun q h => ⟨h.1.1, h.2.1.1, h.1.2, h.2.1.2⟩)
end
end Go.Proofs.YthbcljjpmdfflaaGreat
