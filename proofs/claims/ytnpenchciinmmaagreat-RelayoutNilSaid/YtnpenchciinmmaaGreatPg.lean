/-
  Trees of nodes on the abstract machine: the program's check of a tree, with its counter.
-/
import Derived.Test.YtnpenchciinmmaaGreatPf
import Derived.Test.YtnpenchciinmmaaGreatPe
namespace Go.Proofs.YtnpenchciinmmaaGreat
open Go.RowKit
set_option linter.unusedSimpArgs false
set_option linter.unusedVariables false
set_option maxRecDepth 100000

/-- the checker's cells -/
def ckV (n : Nat) : List V := kindsV ++ [.c (.int .i64 (n : Int))]
@[simp] theorem ck_len (n : Nat) : (ckV n).length = 40 := rfl
@[simp] theorem ck_39 (n : Nat) : (ckV n)[39]? = some (.c (.int .i64 (n : Int))) := rfl
@[simp] theorem ckg_39 (n : Nat) (h : 39 < (ckV n).length) : (ckV n)[39]'h = .c (.int .i64 (n : Int)) := rfl
@[simp] theorem ck_set (n : Nat) (m : Nat) : (ckV n).set 39 (.c (.int .i64 (m : Int))) = ckV m := rfl
@[simp] theorem ck_pub1 (n : Nat) : V.pub1s 0 (ckV n) = some (ckV n) := rfl
@[simp] theorem ck_tame (n : Nat) : V.tames (ckV n) = true := rfl
/-- what the program asks of the kids, with the slots of its table -/
def kidsP (k c : Int) (n : Nat) (sl : Nat) : Bool :=
  if k = 1 then decide (c = 0) && decide (n ≤ 200)
  else if k = 12 then decide (1 ≤ c) && (decide (c ≤ 16) && (decide (1 ≤ n) && (decide (n ≤ 256) && decide ((n : Int).tmod c = 0))))
  else decide (c = 0) && decide (n = sl)
theorem kidsP_of {k : Nat} {c : Int} {n sl : Nat} (hs : (k ≠ 1 ∧ k ≠ 12) → kidsB (k : Int) c n = (decide (c = 0) && decide (n = sl))) : kidsP k c n sl = kidsB k c n := by
  unfold kidsP
  by_cases h1 : k = 1
  · subst h1
    have e : ((1 : Nat) : Int) = 1 := rfl
    have e2 : ¬ ((1 : Nat) : Int) = 12 := by decide
    rw [if_pos e]
    unfold kidsB
    rw [if_neg e2]
    by_cases hc : c = 0
    · rw [decide_eq_true hc, Bool.true_and, if_neg (fun h => h hc), if_pos e]
    · rw [decide_eq_false hc, Bool.false_and, if_pos hc]
  · rw [if_neg (by omega)]
    by_cases h2 : k = 12
    · subst h2
      have e : ((12 : Nat) : Int) = 12 := rfl
      rw [if_pos e]
      unfold kidsB
      rw [if_pos e]
    · rw [if_neg (by omega), hs ⟨h1, h2⟩]
theorem kidsB_c {k : Nat} {c : Int} {n : Nat} (h12 : k ≠ 12) : kidsB k c n = (decide (c = 0) && kidsB k 0 n) := by
  have e : ¬ (k : Int) = 12 := by omega
  by_cases hc : c = 0
  · subst hc; simp
  · rw [decide_eq_false hc, Bool.false_and]
    unfold kidsB
    rw [if_neg e, if_pos hc]
/-- the entry of a kind -/
theorem kind_at (k : Nat) (h1 : 1 ≤ k) (h2 : k ≤ 12) (s : ByteArray) (hs : s.size ≤ maxLen) (n : Nat) : ∃ (g : FuncId) (sl : Nat), (ckV n)[k * 3 + 2]? = some (.fn g []) ∧ (ckV n)[k * 3 + 1]? = some (.c (.int .i64 (sl : Int))) ∧ callOk Tryz.prog g = true ∧ AC Tryz.prog g [.c (.str s)] (.c (.bool (textB k s))) ∧ ∀ c m, kidsP k c m sl = kidsB k c m := by
  have q0 := pempty_a s
  have hE : ∀ k : Int, k ≠ 2 → k ≠ 3 → k ≠ 4 → k ≠ 10 → k ≠ 11 → textB k s = decide (s = ⟨#[]⟩) := fun k a b c d e => by unfold textB; rw [if_neg a, if_neg b, if_neg c, if_neg d, if_neg e]
  match k, h1, h2 with
  | 1, _, _ => exact ⟨_, 0, rfl, rfl, by kernel_rfl, by rw [hE _ (by decide) (by decide) (by decide) (by decide) (by decide)]; exact q0, fun c m => kidsP_of fun h => absurd rfl h.1⟩
  | 2, _, _ => exact ⟨_, 0, rfl, rfl, by kernel_rfl, pndsym_a s hs, fun c m => kidsP_of fun h => kidsB_c (by decide)⟩
  | 3, _, _ => exact ⟨_, 0, rfl, rfl, by kernel_rfl, pndnum_a s hs, fun c m => kidsP_of fun h => kidsB_c (by decide)⟩
  | 4, _, _ => exact ⟨_, 0, rfl, rfl, by kernel_rfl, pplain_a s hs, fun c m => kidsP_of fun h => kidsB_c (by decide)⟩
  | 5, _, _ => exact ⟨_, 2, rfl, rfl, by kernel_rfl, by rw [hE _ (by decide) (by decide) (by decide) (by decide) (by decide)]; exact q0, fun c m => kidsP_of fun h => kidsB_c (by decide)⟩
  | 6, _, _ => exact ⟨_, 2, rfl, rfl, by kernel_rfl, by rw [hE _ (by decide) (by decide) (by decide) (by decide) (by decide)]; exact q0, fun c m => kidsP_of fun h => kidsB_c (by decide)⟩
  | 7, _, _ => exact ⟨_, 2, rfl, rfl, by kernel_rfl, by rw [hE _ (by decide) (by decide) (by decide) (by decide) (by decide)]; exact q0, fun c m => kidsP_of fun h => kidsB_c (by decide)⟩
  | 8, _, _ => exact ⟨_, 2, rfl, rfl, by kernel_rfl, by rw [hE _ (by decide) (by decide) (by decide) (by decide) (by decide)]; exact q0, fun c m => kidsP_of fun h => kidsB_c (by decide)⟩
  | 9, _, _ => exact ⟨_, 3, rfl, rfl, by kernel_rfl, by rw [hE _ (by decide) (by decide) (by decide) (by decide) (by decide)]; exact q0, fun c m => kidsP_of fun h => kidsB_c (by decide)⟩
  | 10, _, _ => exact ⟨_, 1, rfl, rfl, by kernel_rfl, paccent_a s, fun c m => kidsP_of fun h => kidsB_c (by decide)⟩
  | 11, _, _ => exact ⟨_, 1, rfl, rfl, by kernel_rfl, pndfence_a s, fun c m => kidsP_of fun h => kidsB_c (by decide)⟩
  | 12, _, _ => exact ⟨_, 0, rfl, rfl, by kernel_rfl, by rw [hE _ (by decide) (by decide) (by decide) (by decide) (by decide)]; exact q0, fun c m => kidsP_of fun h => absurd rfl h.2⟩
theorem own_out {b : Nd} (h : b.kind < 1 ∨ 12 < b.kind) : b.ownB = false := by
  unfold Nd.ownB
  have e : kidsB b.kind b.cols b.kids.length = false := by
    unfold kidsB
    obtain ⟨k, hk⟩ : ∃ k, b.kind = k := ⟨_, rfl⟩
    rw [hk] at h ⊢
    have a1 : ¬ k = 12 := by omega
    have a2 : ¬ k = 1 := by omega
    have a3 : ¬ (k = 2 ∨ k = 3 ∨ k = 4) := by omega
    have a4 : ¬ (k = 5 ∨ k = 6 ∨ k = 7 ∨ k = 8) := by omega
    have a5 : ¬ k = 9 := by omega
    have a6 : ¬ (k = 10 ∨ k = 11) := by omega
    rw [if_neg a1, if_neg a2, if_neg a3, if_neg a4, if_neg a5, if_neg a6]
    split <;> rfl
  rw [e, Bool.and_false]
set_option maxHeartbeats 3200000 in
theorem pown9_a (b : Nd) (n : Nat) (hok : b.okk) : AY Tryz.prog 61 [.ptr 0 0, .cp b.row 0] 107 (ckV n) (ckV n) (.c (.bool b.ownB)) := by
  obtain ⟨hts, hln, _⟩ := nokk_at b hok
  have hl := nrows_len b.kids
  obtain ⟨rs, hrs⟩ : ∃ rs, Nd.rows b.kids = rs := ⟨_, rfl⟩
  rw [hrs] at hl
  obtain ⟨m, hm⟩ : ∃ m, b.kids.length = m := ⟨_, rfl⟩
  rw [hm] at hl hln
  unfold maxLen at hln
  by_cases hr : b.kind < 1 ∨ 12 < b.kind
  · rw [own_out hr]
    refine AY.intro Tryz.func61 rfl ?_
    simp only [Tryz.ntmps61, List.map_cons, List.map_nil, List.length_cons, List.length_nil, Nat.reduceAdd, Nat.reduceSub, List.replicate_succ, List.replicate_zero, List.cons_append, List.nil_append]
    rcases hr with hr | hr
    · have ff := (cj @hr <| Tryz.results61)
      repeat any_goals (first | refine stW ?_ | exact lfW ff | refine ruW ff ?_ | refine cdW ff ?_ | ((first | refine bdW ff ?_ ?_ | refine bxW ff ?_ ?_ | refine bnW ff ?_ ?_ | refine brW ff ?_ ?_) <;> intro h <;> try (exfalso; first | omega | contradiction)))
      all_goals simp [aRetY, ares, aresL, ares1, V.pub, V.pubs, ldV, Tryz.results61, *]
    · have hr' : ¬ b.kind < 1 := by omega
      have ff := (cj @hr <| cj @hr' <| Tryz.results61)
      repeat any_goals (first | refine stW ?_ | exact lfW ff | refine ruW ff ?_ | refine cdW ff ?_ | ((first | refine bdW ff ?_ ?_ | refine bxW ff ?_ ?_ | refine bnW ff ?_ ?_ | refine brW ff ?_ ?_) <;> intro h <;> try (exfalso; first | omega | contradiction)))
      all_goals simp [aRetY, ares, aresL, ares1, V.pub, V.pubs, ldV, Tryz.results61, *]
  · obtain ⟨k, hk⟩ : ∃ k : Nat, b.kind = (k : Int) := ⟨b.kind.toNat, by omega⟩
    obtain ⟨g, sl, f2, f1, hcok, hac, hkp⟩ := kind_at k (by omega) (by omega) b.text hts n
    have hO : b.ownB = (textB k b.text && kidsP k b.cols m sl) := by unfold Nd.ownB; rw [hk, hm, hkp]
    rw [hO]
    clear hkp hO
    have k1 : ¬ (k : Int) < 1 := by omega
    have k2 : ¬ (12 : Int) < (k : Int) := by omega
    have k3 : (k : Int) < 13 := by omega
    have k4 : k < 13 := by omega
    obtain ⟨TB, hTB⟩ : ∃ TB, textB k b.text = TB := ⟨_, rfl⟩
    rw [hTB] at hac ⊢
    obtain ⟨c, hc⟩ : ∃ c, b.cols = c := ⟨_, rfl⟩
    rw [hc]
    refine AY.intro Tryz.func61 rfl ?_
    simp only [Tryz.ntmps61, List.map_cons, List.map_nil, List.length_cons, List.length_nil, Nat.reduceAdd, Nat.reduceSub, List.replicate_succ, List.replicate_zero, List.cons_append, List.nil_append]
    cases TB with
    | false =>
      have ff := (cj @hk <| cj @k1 <| cj @k2 <| cj @k3 <| cj @k4 <| cj @f1 <| cj @f2 <| cj @hcok <| cj @hrs <| cj @hl <| cj @hc <| Tryz.results61)
      repeat any_goals (first | refine stW ?_ | exact lfW ff | refine ruW ff ?_ | refine caW ff (hac) ?_ | refine cdW ff ?_ | ((first | refine bdW ff ?_ ?_ | refine bxW ff ?_ ?_ | refine bnW ff ?_ ?_ | refine brW ff ?_ ?_) <;> intro h <;> try (exfalso; first | omega | contradiction)))
      all_goals simp [aRetY, ares, aresL, ares1, V.pub, V.pubs, ldV, Tryz.results61, *]
    | true =>
      rw [Bool.true_and]
      unfold kidsP
      by_cases q1 : k = 1
      · have q1' : (k : Int) = 1 := by omega
        rw [if_pos q1']
        have q1t : ((k : Int) = 1) ↔ True := ⟨fun _ => trivial, fun _ => q1'⟩
        have e4 : ((m : Int) ≤ 200) = (m ≤ 200) := by rw [eq_iff_iff]; omega
        have ff := (cj @hk <| cj @k1 <| cj @k2 <| cj @k3 <| cj @k4 <| cj @f1 <| cj @f2 <| cj @hcok <| cj @hrs <| cj @hl <| cj @hc <| cj @q1t <| cj @e4 <| Tryz.results61)
        repeat any_goals (first | refine stW ?_ | exact lfW ff | refine ruW ff ?_ | refine caW ff (hac) ?_ | refine cdW ff ?_ | ((first | refine bdW ff ?_ ?_ | refine bxW ff ?_ ?_ | refine bnW ff ?_ ?_ | refine brW ff ?_ ?_) <;> intro h <;> try (exfalso; first | omega | contradiction)))
        all_goals simp [aRetY, ares, aresL, ares1, V.pub, V.pubs, ldV, Tryz.results61, *]
      · have q1' : ¬ (k : Int) = 1 := by omega
        rw [if_neg q1']
        by_cases q2 : k = 12
        · have q2' : (k : Int) = 12 := by omega
          rw [if_pos q2']
          have q2t : ((k : Int) = 12) ↔ True := ⟨fun _ => trivial, fun _ => q2'⟩
          have e5 : ((m : Int) ≤ 256) = (m ≤ 256) := by rw [eq_iff_iff]; omega
          have e6 : ((1 : Int) ≤ (m : Int)) = (1 ≤ m) := by rw [eq_iff_iff]; omega
          by_cases g1 : 1 ≤ c
          · by_cases g2 : c ≤ 16
            · have c0 : ¬ c = 0 := by omega
              have w0 : IntKind.i64.wrap ((m : Int).tmod c) = (m : Int).tmod c := by
                have h1 := Int.tmod_nonneg c (show (0 : Int) ≤ (m : Int) by omega)
                have h2 := Int.tmod_lt_of_pos (m : Int) (show (0 : Int) < c by omega)
                exact wrap_i64 (by omega) (by omega)
              rw [decide_eq_true g1, decide_eq_true g2, Bool.true_and, Bool.true_and]
              have ff := (cj @hk <| cj @k1 <| cj @k2 <| cj @k3 <| cj @k4 <| cj @f1 <| cj @f2 <| cj @hcok <| cj @hrs <| cj @hl <| cj @hc <| cj @q1' <| cj @q2t <| cj @e5 <| cj @e6 <| cj @g1 <| cj @g2 <| cj @c0 <| cj @w0 <| Tryz.results61)
              repeat any_goals (first | refine stW ?_ | exact lfW ff | refine ruW ff ?_ | refine caW ff (hac) ?_ | refine cdW ff ?_ | ((first | refine bdW ff ?_ ?_ | refine bxW ff ?_ ?_ | refine bnW ff ?_ ?_ | refine brW ff ?_ ?_) <;> intro h <;> try (exfalso; first | omega | contradiction)))
              all_goals simp [aRetY, ares, aresL, ares1, V.pub, V.pubs, ldV, Tryz.results61, *]
            · rw [decide_eq_true g1, decide_eq_false g2, Bool.true_and, Bool.false_and]
              have ff := (cj @hk <| cj @k1 <| cj @k2 <| cj @k3 <| cj @k4 <| cj @f1 <| cj @f2 <| cj @hcok <| cj @hrs <| cj @hl <| cj @hc <| cj @q1' <| cj @q2t <| cj @e5 <| cj @e6 <| cj @g1 <| cj @g2 <| Tryz.results61)
              repeat any_goals (first | refine stW ?_ | exact lfW ff | refine ruW ff ?_ | refine caW ff (hac) ?_ | refine cdW ff ?_ | ((first | refine bdW ff ?_ ?_ | refine bxW ff ?_ ?_ | refine bnW ff ?_ ?_ | refine brW ff ?_ ?_) <;> intro h <;> try (exfalso; first | omega | contradiction)))
              all_goals simp [aRetY, ares, aresL, ares1, V.pub, V.pubs, ldV, Tryz.results61, *]
          · rw [decide_eq_false g1, Bool.false_and]
            have ff := (cj @hk <| cj @k1 <| cj @k2 <| cj @k3 <| cj @k4 <| cj @f1 <| cj @f2 <| cj @hcok <| cj @hrs <| cj @hl <| cj @hc <| cj @q1' <| cj @q2t <| cj @e5 <| cj @e6 <| cj @g1 <| Tryz.results61)
            repeat any_goals (first | refine stW ?_ | exact lfW ff | refine ruW ff ?_ | refine caW ff (hac) ?_ | refine cdW ff ?_ | ((first | refine bdW ff ?_ ?_ | refine bxW ff ?_ ?_ | refine bnW ff ?_ ?_ | refine brW ff ?_ ?_) <;> intro h <;> try (exfalso; first | omega | contradiction)))
            all_goals simp [aRetY, ares, aresL, ares1, V.pub, V.pubs, ldV, Tryz.results61, *]
        · have q2' : ¬ (k : Int) = 12 := by omega
          rw [if_neg q2']
          have e7 : ((m : Int) = (sl : Int)) = (m = sl) := by rw [eq_iff_iff]; omega
          have ff := (cj @hk <| cj @k1 <| cj @k2 <| cj @k3 <| cj @k4 <| cj @f1 <| cj @f2 <| cj @hcok <| cj @hrs <| cj @hl <| cj @hc <| cj @q1' <| cj @q2' <| cj @e7 <| Tryz.results61)
          repeat any_goals (first | refine stW ?_ | exact lfW ff | refine ruW ff ?_ | refine caW ff (hac) ?_ | refine cdW ff ?_ | ((first | refine bdW ff ?_ ?_ | refine bxW ff ?_ ?_ | refine bnW ff ?_ ?_ | refine brW ff ?_ ?_) <;> intro h <;> try (exfalso; first | omega | contradiction)))
          all_goals simp [aRetY, ares, aresL, ares1, V.pub, V.pubs, ldV, Tryz.results61, *]
end Go.Proofs.YtnpenchciinmmaaGreat
