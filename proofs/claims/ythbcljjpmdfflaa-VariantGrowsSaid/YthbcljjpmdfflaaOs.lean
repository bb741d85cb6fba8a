/-
  More inputs: a case, a pair of int16.
-/
import Derived.Test.YthbcljjpmdfflaaOr
namespace Go.Proofs.Ythbcljjpmdfflaa
open Go.RowKit
set_option linter.unusedSimpArgs false
set_option linter.unusedVariables false
set_option maxRecDepth 100000
section
variable {H : Type} {enc : TypeId × Value → H} {w : World}
theorem op_case {fuel : Nat} : OpAt enc Try.prog w fuel 41 (fun x : ByteArray × ByteArray × Int × Int => [.str x.1, .str x.2.1, .int .i64 x.2.2.1, .int .i64 x.2.2.2]) (fun _ => True) := by
  cases fuel with
  | zero => exact OpAt.zero
  | succ fuel => exact (op_struct Try.underlying41 (by kernel_rfl) (OpF.cons (o := 0) (o' := 1) rfl (by kernel_rfl) (by decide) (op_str Try.underlying9) (OpF.cons (o := 1) (o' := 2) rfl (by kernel_rfl) (by decide) (op_str Try.underlying9) (OpF.cons (o := 2) (o' := 3) rfl (by kernel_rfl) (by decide) (op_int Try.underlying3) (OpF.cons (o := 3) (o' := 4) rfl (by kernel_rfl) (by decide) (op_int Try.underlying3) OpF.nil))))).conv (fun q => (q.1, q.2.1, q.2.2.1, q.2.2.2.1)) (fun q => rfl) (fun q h => trivial)
theorem pair16_b {S : Area} {a b : Int} {v : Value} (h : CV (Cx.bare S) w (.agg ([C.int .i16 a, C.int .i16 b].map V.c)) v) : -32768 ≤ a ∧ a ≤ 32767 ∧ -32768 ≤ b ∧ b ≤ 32767 := by
  simp only [List.map_cons, List.map_nil, CV, CVs, RdC] at h
  obtain ⟨vs, _, u, ur, _, ⟨_, w1⟩, u2, ur2, _, ⟨_, w2⟩, _⟩ := h
  have e1 : IntKind.i16.min = -32768 := by decide +kernel
  have e2 : IntKind.i16.max = 32767 := by decide +kernel
  simp only [Lit.wf, e1, e2, Bool.and_eq_true, decide_eq_true_eq] at w1 w2
  exact ⟨w1.1, w1.2, w2.1, w2.2⟩
end
end Go.Proofs.Ythbcljjpmdfflaa
