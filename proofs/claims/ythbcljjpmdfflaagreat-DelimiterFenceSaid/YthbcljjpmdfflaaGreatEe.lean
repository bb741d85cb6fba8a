/-
 delimiter.named: a range over a string.
-/
import Derived.Test.YthbcljjpmdfflaaGreatEd
import Derived.Laws.RangeAny
import Derived.Laws.RangeString
import Derived.LoopTactic
namespace Go.Proofs.YthbcljjpmdfflaaGreat
open Go.RowKit
set_option linter.unusedSimpArgs false
set_option linter.unusedVariables false
set_option maxRecDepth 1000000
def restB (s : ByteArray) (pos : Nat) : Bool := (s.data.toList.drop pos).all byteOk
theorem restB_end {s : ByteArray} {pos : Nat} (h : ¬ pos < s.size) : restB s pos = true := by
 unfold restB
 rw [List.drop_of_length_le (by simpa using h)]
 rfl
theorem restB_step {s : ByteArray} {pos : Nat} (h : pos < s.size) : restB s pos = (byteOk (s[pos]'h) && restB s (pos + 1)) := by
 unfold restB
 have hl : pos < s.data.toList.length := by simpa using h
 rw [List.drop_eq_getElem_cons hl, List.all_cons]
 rfl
theorem nameB_f {s : ByteArray} (h : restB s 0 = false) : nameB s = false := by
 unfold restB at h
 rw [List.drop_zero] at h
 unfold nameB
 rw [h, Bool.false_and]
theorem nameB_t {s : ByteArray} (h : restB s 0 = true) : nameB s = (decide (1 ≤ s.size) && decide (s.size ≤ 16)) := by
 unfold restB at h
 rw [List.drop_zero] at h
 unfold nameB
 rw [h, Bool.true_and]
theorem byteOk_f {b : UInt8} (h : b.toNat < 32 ∨ 126 < b.toNat) : byteOk b = false := by simp [byteOk]; omega
theorem byteOk_t {b : UInt8} (h : 32 ≤ b.toNat ∧ b.toNat ≤ 126) : byteOk b = true := by simp [byteOk]; omega
theorem dnamed_c (s : ByteArray) (w : World) : Calls Tryz.prog 29 #[.string s] w fun e w' => e = .returned (.bool (nameB s)) ∧ ∃ pos, w' = w.iter s pos := by
 go_enter Tryz.func29, Tryz.ntmps29
 go_wp2
 go_loopw [2, 4] (fun r c w' => ∃ (pos : Nat), w' = w.iter s pos ∧ r = .bool false ∧ restB s pos = restB s 0) (fun _ _ w' => s.size - w'.iterPos w.heap.size)
 case atStart => exact ⟨0, rfl, rfl, rfl⟩
 case round =>
  obtain ⟨pos, rfl, rfl, hc⟩ := hrel
  by_cases hp : pos < s.size
  · obtain ⟨b, hb⟩ : ∃ b, (s[pos]'hp) = b := ⟨_, rfl⟩
    have hst := restB_step hp
    rw [hb] at hst
    by_cases ha : b.toNat < 128
    · have hnx : ∀ ty, (Instr.next (.pointer (some ⟨w.heap.size, 0, none⟩)) true ty).run Tryz.prog (w.iter s pos) = .ok (.tuple #[.bool true, .int .i64 pos, .int .i32 (b.toNat : Int)]) (w.iter s (pos + 1)) := fun ty => by rw [run_next_ascii w s pos ty hp (by rw [hb]; exact ha), hb]
      go_wp2
      all_goals first
       | (refine ⟨⟨pos + 1, rfl, rfl, ?_⟩, ?_⟩
          · rw [← hc, hst, byteOk_t (by omega), Bool.true_and]
          · simp; omega)
       | (go_ret
          have e : nameB s = false := nameB_f (by rw [← hc, hst, byteOk_f (by omega), Bool.false_and])
          rw [e]; exact ⟨rfl, _, rfl⟩)
       | (exfalso; omega)
    · have hh := decode_high s pos hp (by rw [hb]; omega)
      obtain ⟨D, hD⟩ : ∃ D, (Utf8.decode s pos).1 = D := ⟨_, rfl⟩
      rw [hD] at hh
      have hnx : ∀ ty, (Instr.next (.pointer (some ⟨w.heap.size, 0, none⟩)) true ty).run Tryz.prog (w.iter s pos) = .ok (.tuple #[.bool true, .int .i64 pos, .int .i32 (D : Int)]) (w.iter s (pos + (Utf8.decode s pos).2)) := fun ty => by rw [run_next_any w s pos ty hp, hD]
      go_wp2
      all_goals first
       | (exfalso; omega)
       | (go_ret
          have e : nameB s = false := nameB_f (by rw [← hc, hst, byteOk_f (by omega), Bool.false_and])
          rw [e]; exact ⟨rfl, _, rfl⟩)
  · have hnx : ∀ ty, (Instr.next (.pointer (some ⟨w.heap.size, 0, none⟩)) true ty).run Tryz.prog (w.iter s pos) = _ := fun ty => run_next_end w s pos ty hp
    have ht := nameB_t (hc.symm.trans (restB_end hp))
    go_wp2
    all_goals go_ret
    all_goals try rw [ht]
    all_goals refine ⟨?_, _, rfl⟩
    all_goals simp
    all_goals first | omega | (rw [decide_eq_decide]; omega) | (rw [decide_eq_true (show 1 ≤ s.size by omega), Bool.true_and, decide_eq_decide]; omega) | trace_state
theorem iter_keep (w : World) (s : ByteArray) (pos : Nat) : Keep w (w.iter s pos) := (Keep.refl w).alloc _
theorem dnamed_a (s : ByteArray) : AC Tryz.prog 29 [.c (.str s)] (.c (.bool (nameB s))) := by
 intro S w us hS hus
 simp only [CVs, CV, RdC] at hus
 obtain ⟨u, ur, rfl, ⟨rfl, _⟩, rfl⟩ := hus
 refine (dnamed_c s w).mono ?_
 rintro e w' ⟨rfl, pos, rfl⟩
 have hk := iter_keep w s pos
 exact ⟨_, S, rfl, hk, ⟨fun _ _ h => h, fun b j v _ hc => hk.cell hc⟩, fun b j h => .inl h, by simp only [CV, RdC]⟩
end Go.Proofs.YthbcljjpmdfflaaGreat
