/-
  A tree of nodes, a place as inputs of a law.
-/
import Derived.Test.YtnpenchciinmmaaGreatOr
import Derived.Test.YtnpenchciinmmaaGreatPh
import Derived.Test.YtnpenchciinmmaaGreatSt
namespace Go.Proofs.YtnpenchciinmmaaGreat
open Go.RowKit
set_option linter.unusedSimpArgs false
set_option linter.unusedVariables false
set_option maxRecDepth 100000
section
variable {H : Type} {enc : TypeId × Value → H} {w : World}
theorem op_src {fuel : Nat} : OpAt enc Tryz.prog w fuel 22 (fun l : List Int => [.sl (l.map fun n => [.int .i64 n])]) (fun l => l.length ≤ maxLen ∧ ∀ a ∈ l, True) := by
  cases fuel with
  | zero => exact OpAt.zero
  | succ fuel => exact op_sl (n := 1) Tryz.underlying22 (by kernel_rfl) (by decide) (op_int Tryz.underlying3)
theorem op_style {fuel : Nat} : OpAt enc Tryz.prog w fuel 54 (fun s : Style => [.int .i64 s.level, .bool s.cramped]) (fun _ => True) := by
  cases fuel with
  | zero => exact OpAt.zero
  | succ fuel => exact (op_struct Tryz.underlying54 (by kernel_rfl) (OpF.cons (o := 0) (o' := 1) rfl (by kernel_rfl) (by decide) (op_int Tryz.underlying3) (OpF.cons (o := 1) (o' := 2) rfl (by kernel_rfl) (by decide) (op_bool Tryz.underlying4) (OpF.nil)))).conv (fun q => ⟨q.1, q.2.1⟩) (fun q => rfl) (fun q h => trivial)
theorem nokks_of : ∀ {l : List Nd}, (∀ a ∈ l, a.okk) → Nd.okks l
  | [], _ => trivial
  | b :: l, h => ⟨h b List.mem_cons_self, nokks_of fun a ha => h a (List.mem_cons_of_mem _ ha)⟩
theorem op_nd_s {fuel : Nat} (hk : OpAt enc Tryz.prog w fuel 23 (fun l : List Nd => [.sl (l.map Nd.row)]) (fun l => l.length ≤ maxLen ∧ ∀ a ∈ l, a.okk)) : OpAt enc Tryz.prog w (fuel + 1) 40 Nd.row (fun b => b.okk) :=
  (op_struct Tryz.underlying40 (by kernel_rfl) (OpF.cons (o := 0) (o' := 1) rfl (by kernel_rfl) (by decide) (op_int Tryz.underlying3) (OpF.cons (o := 1) (o' := 2) rfl (by kernel_rfl) (by decide) (op_str Tryz.underlying9) (OpF.cons (o := 2) (o' := 3) rfl (by kernel_rfl) (by decide) (op_int Tryz.underlying3) (OpF.cons (o := 3) (o' := 4) rfl (by kernel_rfl) (by decide) hk (OpF.nil)))))).conv (fun q => ⟨q.1, q.2.1, q.2.2.1, q.2.2.2.1⟩) (fun q => by simp [Nd.row, nrows_map, -Nd.row_map]) (fun q h => ⟨h.2.1, h.2.2.2.1.1, nokks_of h.2.2.2.1.2⟩)
theorem op_nds {fuel : Nat} (h : OpAt enc Tryz.prog w fuel 40 Nd.row (fun b => b.okk)) : OpAt enc Tryz.prog w (fuel + 1) 23 (fun l : List Nd => [.sl (l.map Nd.row)]) (fun l => l.length ≤ maxLen ∧ ∀ a ∈ l, a.okk) :=
  op_sl (n := 4) Tryz.underlying23 (by kernel_rfl) (by decide) h
theorem op_nd : ∀ fuel, OpAt enc Tryz.prog w fuel 40 Nd.row (fun b => b.okk)
  | 0 => OpAt.zero
  | 1 => op_nd_s OpAt.zero
  | k + 2 => op_nd_s (op_nds (op_nd k))
theorem op_ndl0 : ∀ fuel, OpAt enc Tryz.prog w fuel 23 (fun l : List Nd => [.sl (l.map Nd.row)]) (fun l => l.length ≤ maxLen ∧ ∀ a ∈ l, a.okk)
  | 0 => OpAt.zero
  | k + 1 => op_nds (op_nd k)
end
end Go.Proofs.YtnpenchciinmmaaGreat
