/-
 The reference's Row, Names, Fence of layers 29, 31. (For the seat of DelimiterFence.)
-/
import Derived.Test.YthbcljjpmdfflaaGreatEk
namespace Go.Proofs.YthbcljjpmdfflaaGreat
open Go.RowKit
set_option linter.unusedSimpArgs false
set_option linter.unusedVariables false
set_option maxRecDepth 100000
theorem gx1 {α : Type} {l : List α} {k : Nat} {x : α} (h : l[k]? = some x) : ∀ hx : k < l.length, l[k]'hx = x := fun hx => by rw [List.getElem?_eq_getElem hx] at h; exact Option.some.inj h
def allD : List UInt8 := [40, 41, 91, 93, 123, 125, 124, 60, 62, 47, 46]
theorem allD_pair (b : UInt8) : allD.contains b = pairByte b := by
 unfold pairByte
 rw [Bool.eq_iff_iff, List.contains_iff_mem, List.contains_iff_mem]
 simp [allD, pairD]
 constructor <;> (intro h; rcases h with h | h | h | h | h | h | h | h | h | h | h <;> simp [h])
theorem int_u8 {a b : UInt8} : decide ((a.toNat : Int) = (b.toNat : Int)) = (a == b) := by
 rw [Bool.eq_iff_iff, decide_eq_true_iff, beq_iff_eq]
 constructor
 · intro h; exact UInt8.toNat_inj.1 (by omega)
 · intro h; rw [h]
set_option maxHeartbeats 3200000 in
theorem names_a (s : ByteArray) (hs : s.size ≤ maxLen) : AC Tryz.prog 24 [.c (.str s)] (.c (.bool (pairB s))) := by
 have hm : maxLen = 9223372036854775807 := rfl
 refine en Tryz.func24 Tryz.ntmps24 ?_
 have ff := (Tryz.results24)
 repeat any_goals (first | refine stW ?_ | exact lfW ff | refine ruW ff ?_ | refine cdW ff ?_ | ((first | refine bdW ff ?_ ?_ | refine bxW ff ?_ ?_ | refine bnW ff ?_ ?_ | refine brW ff ?_ ?_) <;> intro h <;> try (exfalso; omega)))
 refine lp (ι := { k : Nat // k ≤ s.size ∧ restP s k = restP s 0 }) (fun k => [(2, .c (.bool false)), (3, .c (.int .i64 (k.1 : Int)))]) (fun _ => []) (fun k => s.size - k.1) ⟨0, by simp⟩ ?_ ?_
 all_goals simp only [puts, List.foldl_cons, List.foldl_nil, List.set_cons_zero, List.set_cons_succ]
 · refine Le.weak (by simp [subT])
 · rintro ⟨k, hk, hI⟩
   simp only
   by_cases hlt : k < s.size
   · obtain ⟨b, hb⟩ : ∃ b, (s[k]'hlt) = b := ⟨_, rfl⟩
     have hst := restP_step hlt
     rw [hb] at hst
     have hbk : s.data.toList[k]? = some b := by rw [List.getElem?_eq_getElem (by simpa using hlt)]; exact congrArg some hb
     have hk63 : (k : Int) + 1 ≤ 9223372036854775807 := by omega
     have ff := (cj @hlt <| Tryz.results24)
     repeat any_goals (first | refine stW ?_ | exact lfW ff | refine ruW ff ?_ | refine cdW ff ?_ | ((first | refine bdW ff ?_ ?_ | refine bxW ff ?_ ?_ | refine bnW ff ?_ ?_ | refine brW ff ?_ ?_) <;> intro h <;> try (exfalso; omega)))
     refine lp (ι := { x : Nat × Bool // x.1 ≤ 11 ∧ (x.2 || (allD.drop x.1).contains b) = pairByte b }) (fun x => [(4, .c (.bool x.1.2)), (5, .c (.int .i64 (x.1.1 : Int)))]) (fun _ => []) (fun x => 11 - x.1.1) ⟨(0, false), Nat.zero_le _, by rw [List.drop_zero, Bool.false_or, allD_pair]⟩ ?_ ?_
     all_goals simp only [puts, List.foldl_cons, List.foldl_nil, List.set_cons_zero, List.set_cons_succ]
     · refine Le.weak (by simp [subT])
     · rintro ⟨⟨j, fd⟩, hj, hJ⟩
       simp only at hj hJ ⊢
       by_cases hj1 : j < 11
       · obtain ⟨x, hx⟩ : ∃ x, allD[j]'hj1 = x := ⟨_, rfl⟩
         have hxk : ([40, 41, 91, 93, 123, 125, 124, 60, 62, 47, 46] : List UInt8)[j]? = some x := by rw [← hx]; exact List.getElem?_eq_getElem (l := allD) hj1
         have hxk' := gx1 hxk
         rw [List.drop_eq_getElem_cons (l := allD) hj1, hx, List.contains_cons] at hJ
         have hdx : decide ((x.toNat : Int) = (b.toNat : Int)) = (x == b) := int_u8
         have hjl : (j : Int) < 11 := by omega
         have ff := (cj @hlt <| cj @hjl <| cj @hbk <| cj @hxk <| cj @hxk' <| cj @hdx <| Tryz.results24)
         repeat any_goals (first | refine stW ?_ | exact lfW ff | refine ruW ff ?_ | refine cdW ff ?_ | ((first | refine bdW ff ?_ ?_ | refine bxW ff ?_ ?_ | refine bnW ff ?_ ?_ | refine brW ff ?_ ?_) <;> intro h <;> try (exfalso; omega)))
         · exact ⟨⟨(j + 1, true), by omega, by rw [← hJ, h]; rfl⟩, by simp only; omega, wd 0⟩
         · exact ⟨⟨(j + 1, x == b), by omega, by rw [← hJ, h, Bool.false_or, show (x == b) = (b == x) from BEq.comm]⟩, by simp only; omega, wd 0⟩
       · have hd0 : allD.drop j = [] := List.drop_of_length_le (by show 11 ≤ j; omega)
         rw [hd0, List.contains_nil, Bool.or_false] at hJ
         have hjl : ¬ (j : Int) < 11 := by omega
         rw [← hJ] at hst
         have ff := (cj @hlt <| cj @hjl <| Tryz.results24)
         repeat any_goals (first | refine stW ?_ | exact lfW ff | refine ruW ff ?_ | refine cdW ff ?_ | ((first | refine bdW ff ?_ ?_ | refine bxW ff ?_ ?_ | refine bnW ff ?_ ?_ | refine brW ff ?_ ?_) <;> intro h <;> try (exfalso; omega)))
         · rw [h, Bool.false_and] at hst
           have e := pairB_f (hI.symm.trans hst)
           have ff := (cj @e <| Tryz.results24)
           repeat any_goals (first | refine stW ?_ | exact lfW ff | refine ruW ff ?_ | refine cdW ff ?_ | ((first | refine bdW ff ?_ ?_ | refine bxW ff ?_ ?_ | refine bnW ff ?_ ?_ | refine brW ff ?_ ?_) <;> intro h <;> try (exfalso; omega)))
         · rw [h, Bool.true_and] at hst
           exact ⟨⟨k + 1, by omega, hst.symm.trans hI⟩, by simp only; omega, wd 0⟩
   · have e := pairB_t (hI.symm.trans (restP_end hlt))
     have e2 : decide ((s.size : Int) = 2) = decide (s.size = 2) := by rw [decide_eq_decide]; omega
     have ff := (cj @hlt <| cj @e <| cj @e2 <| Tryz.results24)
     repeat any_goals (first | refine stW ?_ | exact lfW ff | refine ruW ff ?_ | refine cdW ff ?_ | ((first | refine bdW ff ?_ ?_ | refine bxW ff ?_ ?_ | refine bnW ff ?_ ?_ | refine brW ff ?_ ?_) <;> intro h <;> try (exfalso; omega)))
end Go.Proofs.YthbcljjpmdfflaaGreat
