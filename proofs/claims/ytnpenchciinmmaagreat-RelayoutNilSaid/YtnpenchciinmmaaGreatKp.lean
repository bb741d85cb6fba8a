/-
  Layer 39 on a nil sheet: the kernel runs it.
-/
import Derived.Test.YtnpenchciinmmaaGreatKo
namespace Go.Proofs.YtnpenchciinmmaaGreat
set_option linter.unusedSimpArgs false
set_option linter.unusedVariables false

def cFlat : C → C → Bool
  | .int k a, .int k' b => (IntKind.beq64 k && IntKind.beq64 k') && decide (a = b)
  | .bool a, .bool b => a == b
  | .str a, .str b => decide (a = b)
  | .nilp, .nilp => true
  | .sl [], .sl [] => true
  | _, _ => false
theorem cFlat_ok {a b : C} (h : cFlat a b = true) : a = b := by
  unfold cFlat at h
  split at h
  · simp only [Bool.and_eq_true, decide_eq_true_eq] at h
    rw [beq64_ok h.1.1, beq64_ok h.1.2, h.2]
  · rw [eq_of_beq h]
  · rw [of_decide_eq_true h]
  · rfl
  · rfl
  · cases h
def cV : V → V → Bool
  | .c a, .c b => cFlat a b
  | _, _ => false
theorem cV_ok {u v : V} (h : cV u v = true) : u = v := by
  unfold cV at h
  split at h
  · rw [cFlat_ok h]
  · cases h
def vsFlat : List V → List V → Bool
  | [], [] => true
  | a :: l, b :: m => cV a b && vsFlat l m
  | _, _ => false
theorem vsFlat_ok : ∀ {l m : List V}, vsFlat l m = true → l = m
  | [], [], _ => rfl
  | [], _ :: _, h => by simp [vsFlat] at h
  | _ :: _, [], h => by simp [vsFlat] at h
  | a :: l, b :: m, h => by
    simp only [vsFlat, Bool.and_eq_true] at h
    rw [cV_ok h.1, vsFlat_ok h.2]
def vFlat : V → V → Bool
  | .c a, .c b => cFlat a b
  | .agg l, .agg m => vsFlat l m
  | _, _ => false
theorem vFlat_ok {u v : V} (h : vFlat u v = true) : u = v := by
  unfold vFlat at h
  split at h
  · rw [cFlat_ok h]
  · rw [vsFlat_ok h]
  · cases h
def resIs (v' : V) : Option Res → Bool
  | some ⟨.ret, ⟨[v], _⟩⟩ => match V.pub v with
    | some u => vFlat u v'
    | none => false
  | _ => false
theorem resIs_ok {v' : V} {r : Option Res} (h : resIs v' r = true) : ∃ v hh, r = some ⟨.ret, ⟨[v], hh⟩⟩ ∧ V.pub v = some v' := by
  unfold resIs at h
  split at h
  · split at h
    · rename_i hp
      exact ⟨_, _, rfl, by rw [hp, vFlat_ok h]⟩
    · cases h
  · cases h
theorem AC.runIs {K : Hooks} (hK : HkOk Tryz.prog K) (n : Nat) {f : FuncId} {args : List V} {v' : V} (h : resIs v' (runJ Tryz.prog K n (.call f args [])) = true) : AC Tryz.prog f args v' :=
  let ⟨_, _, e, p⟩ := resIs_ok h
  AC.run hK n e p
def zBoxV : V := .agg [.c (.int .i64 0), .c (.str ⟨#[]⟩), .c (.int .i64 0), .c (.int .i64 0), .c (.int .i64 0), .c (.int .i64 0), .c (.int .i64 0), .c (.int .i64 0), .c (.sl []), .c (.int .i64 0), .c (.sl [])]
def zNodeV : V := .agg [.c (.int .i64 0), .c (.str ⟨#[]⟩), .c (.int .i64 0), .c (.sl [])]
theorem nclone_a : AC Tryz.prog 7 [.c .nilp] (.c .nilp) := AC.runIs hkB_ok 1000 (by kernel_rfl)
theorem ntouched_a : AC Tryz.prog 8 [.c .nilp] (.c (.int .i64 0)) := AC.runIs hkB_ok 1000 (by kernel_rfl)
theorem nbox_a : AC Tryz.prog 10 [.c .nilp] zBoxV := AC.runIs hkB_ok 1000 (by kernel_rfl)
theorem ntree_a : AC Tryz.prog 12 [.c .nilp] zNodeV := AC.runIs hkB_ok 1000 (by kernel_rfl)
theorem zbox_a : AC Tryz.prog 9 [zBoxV, zBoxV] (.c (.bool true)) := AC.runIs hkB_ok 1000 (by kernel_rfl)
theorem znode_a : AC Tryz.prog 11 [zNodeV, zNodeV] (.c (.bool true)) := AC.runIs hkB_ok 1000 (by kernel_rfl)
end Go.Proofs.YtnpenchciinmmaaGreat
