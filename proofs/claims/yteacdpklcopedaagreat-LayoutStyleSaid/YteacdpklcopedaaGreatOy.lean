/-
  A tree of nodes, a place as inputs of a law.
-/
import Derived.Test.YteacdpklcopedaaGreatOr
import Derived.Test.YteacdpklcopedaaGreatPh
import Derived.Test.YteacdpklcopedaaGreatSt
namespace Go.Proofs.YteacdpklcopedaaGreat
open Go.RowKit
set_option linter.unusedSimpArgs false
set_option linter.unusedVariables false
set_option maxRecDepth 100000
section
variable {H : Type} {enc : TypeId × Value → H} {w : World}
theorem op_src {fuel : Nat} : OpAt enc Tryz.prog w fuel 25 (fun l : List Int => [.sl (l.map fun n => [.int .i64 n])]) (fun l => l.length ≤ maxLen ∧ ∀ a ∈ l, True) := by
  cases fuel with
  | zero => exact OpAt.zero
  | succ fuel => exact op_sl (n := 1) Tryz.underlying25 (by kernel_rfl) (by decide) (op_int Tryz.underlying3)
theorem op_style {fuel : Nat} : OpAt enc Tryz.prog w fuel 27 (fun s : Style => [.int .i64 s.level, .bool s.cramped]) (fun _ => True) := by
  cases fuel with
  | zero => exact OpAt.zero
  | succ fuel => exact (op_struct Tryz.underlying27 (by kernel_rfl) (OpF.cons (o := 0) (o' := 1) rfl (by kernel_rfl) (by decide) (op_int Tryz.underlying3) (OpF.cons (o := 1) (o' := 2) rfl (by kernel_rfl) (by decide) (op_bool Tryz.underlying4) (OpF.nil)))).conv (fun q => ⟨q.1, q.2.1⟩) (fun q => rfl) (fun q h => trivial)
theorem op_place {fuel : Nat} : OpAt enc Tryz.prog w fuel 29 (fun q : List Int × Style => [intsC q.1, .int .i64 q.2.level, .bool q.2.cramped]) (fun q => q.1.length ≤ maxLen) := by
  cases fuel with
  | zero => exact OpAt.zero
  | succ fuel => exact (op_struct Tryz.underlying29 (by kernel_rfl) (OpF.cons (o := 0) (o' := 1) rfl (by kernel_rfl) (by decide) op_src (OpF.cons (o := 1) (o' := 3) rfl (by kernel_rfl) (by decide) op_style (OpF.nil)))).conv (fun q => ⟨q.1, q.2.1⟩) (fun q => rfl) (fun q h => h.1.1)
theorem nokks_of : ∀ {l : List Nd}, (∀ a ∈ l, a.okk) → Nd.okks l
  | [], _ => trivial
  | b :: l, h => ⟨h b List.mem_cons_self, nokks_of fun a ha => h a (List.mem_cons_of_mem _ ha)⟩
theorem op_nd_s {fuel : Nat} (hk : OpAt enc Tryz.prog w fuel 22 (fun l : List Nd => [.sl (l.map Nd.row)]) (fun l => l.length ≤ maxLen ∧ ∀ a ∈ l, a.okk)) : OpAt enc Tryz.prog w (fuel + 1) 24 Nd.row (fun b => b.okk) :=
  (op_struct Tryz.underlying24 (by kernel_rfl) (OpF.cons (o := 0) (o' := 1) rfl (by kernel_rfl) (by decide) (op_int Tryz.underlying3) (OpF.cons (o := 1) (o' := 2) rfl (by kernel_rfl) (by decide) (op_str Tryz.underlying9) (OpF.cons (o := 2) (o' := 3) rfl (by kernel_rfl) (by decide) (op_int Tryz.underlying3) (OpF.cons (o := 3) (o' := 4) rfl (by kernel_rfl) (by decide) hk (OpF.nil)))))).conv (fun q => ⟨q.1, q.2.1, q.2.2.1, q.2.2.2.1⟩) (fun q => by simp [Nd.row, nrows_map, -Nd.row_map]) (fun q h => ⟨h.2.1, h.2.2.2.1.1, nokks_of h.2.2.2.1.2⟩)
theorem op_nds {fuel : Nat} (h : OpAt enc Tryz.prog w fuel 24 Nd.row (fun b => b.okk)) : OpAt enc Tryz.prog w (fuel + 1) 22 (fun l : List Nd => [.sl (l.map Nd.row)]) (fun l => l.length ≤ maxLen ∧ ∀ a ∈ l, a.okk) :=
  op_sl (n := 4) Tryz.underlying22 (by kernel_rfl) (by decide) h
theorem op_nd : ∀ fuel, OpAt enc Tryz.prog w fuel 24 Nd.row (fun b => b.okk)
  | 0 => OpAt.zero
  | 1 => op_nd_s OpAt.zero
  | k + 2 => op_nd_s (op_nds (op_nd k))
theorem op_ndl0 : ∀ fuel, OpAt enc Tryz.prog w fuel 22 (fun l : List Nd => [.sl (l.map Nd.row)]) (fun l => l.length ≤ maxLen ∧ ∀ a ∈ l, a.okk)
  | 0 => OpAt.zero
  | k + 1 => op_nds (op_nd k)
end
end Go.Proofs.YteacdpklcopedaaGreat
