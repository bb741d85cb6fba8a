/-
  The two tables of the errors' names: what console.Name and the document's Name return, number by number.
-/
import Derived.Test.YtjojmejmbdjdcaaRows
import Derived.Test.YtjojmejmbdjdcaaLaws
import Derived.ProofKit
import Derived.OpenShut
import Derived.Lib.Hide
namespace Go.Proofs.Ytjojmejmbdjdcaa.consoleNames
open Go.ChangeShapes Go.WideShapes Go.ChangeAt Go.RowKit

/-- the names of the errors, as bytes -/
def nms : List ByteArray := [⟨#[111, 107]⟩, ⟨#[97, 114, 103, 117, 109, 101, 110, 116]⟩, ⟨#[114, 97, 110, 103, 101]⟩, ⟨#[115, 121, 110, 116, 97, 120]⟩, ⟨#[102, 111, 114, 109]⟩, ⟨#[115, 117, 109]⟩, ⟨#[108, 105, 109, 105, 116]⟩, ⟨#[115, 116, 97, 116, 101]⟩, ⟨#[110, 111, 110, 101]⟩, ⟨#[100, 117, 112, 108, 105, 99, 97, 116, 101]⟩, ⟨#[100, 105, 118, 105, 100, 101]⟩, ⟨#[117, 110, 107, 110, 111, 119, 110]⟩, ⟨#[111, 112, 101, 110]⟩, ⟨#[97, 114, 105, 116, 121]⟩, ⟨#[97, 109, 98, 105, 103, 117, 111, 117, 115]⟩, ⟨#[109, 101, 97, 110, 105, 110, 103]⟩, ⟨#[117, 110, 105, 116]⟩, ⟨#[118, 97, 108, 117, 101]⟩, ⟨#[99, 111, 110, 102, 108, 105, 99, 116]⟩, ⟨#[99, 97, 114, 114, 121]⟩]

theorem agg25 : AggTy Try.prog 25 20 := AggTy.mk' Try.underlying25 rfl (by kernel_rfl)
theorem ones : Ones (nms.map Value.string).toArray := by
  intro v hv
  simp only [List.mem_map] at hv
  obtain ⟨s, _, rfl⟩ := hv
  rfl

set_option maxHeartbeats 4000000 in
theorem nameI (k : Nat) (s : ByteArray) (hs : nms[k]? = some s) (w : World) (h1 : k < 20) :
    Calls Try.prog 4 #[.int .i64 k] w fun r w' => r = .returned (.string s) ∧ Grown w w' := by
  have h2 : (k : Int) < 20 := by omega
  go_enter Try.func4, Try.ntmps4
  go_wp2_with (refine wl_store w.heap.size 25 _ (nms.map Value.string).toArray rfl rfl (Blk.new _ _ _) rfl ones agg25 ?_; rw [setRow_alloc_at _ _ _ _ _ _ rfl])
  go_ret
  exact ⟨rfl, by repeat (first | exact Grown.refl _ | apply Grown.drew | apply Grown.alloc)⟩

theorem nameI_out (e : Int) (h : e < 0 ∨ 20 ≤ e) (w : World) :
    Calls Try.prog 4 #[.int .i64 e] w fun r w' => r = .returned (.string .empty) ∧ Grown w w' := by
  rcases h with h | h
  all_goals
    go_enter Try.func4, Try.ntmps4
    go_wp2_with (refine wl_store w.heap.size 25 _ (nms.map Value.string).toArray rfl rfl (Blk.new _ _ _) rfl ones agg25 ?_; rw [setRow_alloc_at _ _ _ _ _ _ rfl])
    go_ret
    exact ⟨rfl, by repeat (first | exact Grown.refl _ | apply Grown.drew | apply Grown.alloc)⟩

theorem pick (k : Nat) (s : ByteArray) (hs : nms[k]? = some s) (h : k < (nms.map Value.string).length) : (nms.map Value.string)[k]'h = .string s := by
  have h' : k < nms.length := by simpa using h
  rw [List.getElem?_eq_getElem h'] at hs
  simp only [Option.some.injEq] at hs
  rw [List.getElem_map, hs]

set_option maxHeartbeats 4000000 in
theorem nameR (k : Nat) (s : ByteArray) (hs : nms[k]? = some s) (w : World) (h1 : k < 20) :
    Calls Try.prog 5 #[.int .i64 k] w fun r w' => r = .returned (.string s) ∧ Grown w w' := by
  have h2 : (k : Int) < 20 := by omega
  have H := Lib.hid hs
  clear hs
  go_enter Try.func5, Try.ntmps5
  go_wp2
  go_ret
  exact ⟨congrArg Ending.returned (pick k s H.out h1), by repeat (first | exact Grown.refl _ | apply Grown.drew | apply Grown.alloc)⟩

theorem nameR_out (e : Int) (h : e < 0 ∨ 20 ≤ e) (w : World) :
    Calls Try.prog 5 #[.int .i64 e] w fun r w' => r = .returned (.string .empty) ∧ Grown w w' := by
  rcases h with h | h
  all_goals
    go_enter Try.func5, Try.ntmps5
    go_wp2
    go_ret
    exact ⟨rfl, by repeat (first | exact Grown.refl _ | apply Grown.drew | apply Grown.alloc)⟩

/-- both functions at one number -/
theorem both (e : Int) : ∃ s : ByteArray, (∀ w : World, Calls Try.prog 4 #[.int .i64 e] w fun r w' => r = .returned (.string s) ∧ Grown w w') ∧
    (∀ w : World, Calls Try.prog 5 #[.int .i64 e] w fun r w' => r = .returned (.string s) ∧ Grown w w') := by
  by_cases h : e < 0 ∨ 20 ≤ e
  · exact ⟨.empty, nameI_out e h, nameR_out e h⟩
  · obtain ⟨k, rfl⟩ := Int.eq_ofNat_of_zero_le (show 0 ≤ e by omega)
    have hk : k < nms.length := by show k < 20; omega
    exact ⟨nms[k], fun w => nameI k _ (List.getElem?_eq_getElem hk) w (by omega), fun w => nameR k _ (List.getElem?_eq_getElem hk) w (by omega)⟩
theorem zero (w : World) : Calls Try.prog 4 #[.int .i64 0] w fun r w' => r = .returned (.string ⟨#[111, 107]⟩) ∧ Grown w w' := nameI 0 _ rfl w (by omega)

theorem grown_trans {a b c : World} (h : Grown a b) (k : Grown b c) : Grown a c :=
  ⟨World.keptBut_trans h.1 k.1, fun x => (k.2.1 x).trans (h.2.1 x), Nat.le_trans h.2.2 k.2.2⟩

theorem walk (a0 : Int) (w : World) :
    Calls Try.prog 3 #[.int .i64 a0] w fun e w' => e = .returned (.bool true) ∧ Grown w w' := by
  obtain ⟨s, hI, hR⟩ := both a0
  have HI := Lib.hid hI
  have HR := Lib.hid hR
  clear hI hR
  go_enter Try.func3, Try.ntmps3
  go_wp2_with fail
  refine (zero _).mono ?_
  rintro r w1 ⟨rfl, g1⟩
  go_wp2_with fail
  refine (HI.out _).mono ?_
  rintro r w2 ⟨rfl, g2⟩
  go_wp2_with fail
  refine (HR.out _).mono ?_
  rintro r w3 ⟨rfl, g3⟩
  go_wp2_with fail
  go_ret
  exact ⟨by simp, grown_trans g1 (grown_trans g2 g3)⟩
end Go.Proofs.Ytjojmejmbdjdcaa.consoleNames
