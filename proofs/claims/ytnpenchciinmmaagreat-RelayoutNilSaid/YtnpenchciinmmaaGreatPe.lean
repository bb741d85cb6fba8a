/-
  Trees of nodes on the abstract machine: the reference's checks, counts.
-/
import Derived.Test.YtnpenchciinmmaaGreatPc
namespace Go.Proofs.YtnpenchciinmmaaGreat
open Go.RowKit
set_option linter.unusedSimpArgs false
set_option linter.unusedVariables false
set_option maxRecDepth 100000

theorem ndep_mem : ∀ (l : List Nd) (i : Nat) (b : Nd), l[i]? = some b → b.dep ≤ Nd.deps l
  | [], i, b, h => by simp at h
  | x :: l, 0, b, h => by simp at h; subst h; simp only [Nd.deps]; omega
  | x :: l, i + 1, b, h => by have := ndep_mem l i b (by simpa using h); simp only [Nd.deps]; omega
theorem ncnts_take : ∀ (l : List Nd) (k : Nat) (b : Nd), l[k]? = some b → Nd.cnts (l.take (k + 1)) = Nd.cnts (l.take k) + b.cnt
  | [], _, _, h => by simp at h
  | x :: l, 0, b, h => by simp at h; subst h; simp [Nd.cnts]
  | x :: l, k + 1, b, h => by simp only [List.take_succ_cons, Nd.cnts]; rw [ncnts_take l k b (by simpa using h)]; omega
theorem ncnts_tle : ∀ (l : List Nd) (k : Nat), Nd.cnts (l.take k) ≤ Nd.cnts l
  | [], k => by simp [Nd.cnts]
  | x :: l, 0 => by simp [Nd.cnts]
  | x :: l, k + 1 => by simp only [List.take_succ_cons, Nd.cnts]; have := ncnts_tle l k; omega
theorem ndeps_take : ∀ (l : List Nd) (k : Nat) (b : Nd), l[k]? = some b → Nd.deps (l.take (k + 1)) = max (Nd.deps (l.take k)) b.dep
  | [], _, _, h => by simp at h
  | x :: l, 0, b, h => by simp at h; subst h; simp [Nd.deps]
  | x :: l, k + 1, b, h => by simp only [List.take_succ_cons, Nd.deps]; rw [ndeps_take l k b (by simpa using h)]; omega
/-- a property of trees, by the kids -/
theorem nd_ind {Q : Nd → Prop} (h : ∀ b : Nd, (∀ k ∈ b.kids, Q k) → Q b) : ∀ b : Nd, Q b := by
  have : ∀ (n : Nat) (b : Nd), SizeOf.sizeOf b < n → Q b := by
    intro n
    induction n with
    | zero => intro b hb; omega
    | succ n ih =>
      intro b hb
      refine h b fun k hk => ih k ?_
      have := List.sizeOf_lt_of_mem hk
      cases b
      simp only [Nd.mk.sizeOf_spec] at hb this
      omega
  exact fun b => this _ b (Nat.lt_succ_self _)
set_option maxHeartbeats 3200000 in
theorem rleft_a : ∀ b : Nd, ∀ m : Int, b.okk → 0 ≤ m → m ≤ 100000 → AC Tryz.prog 26 [ndV b, .c (.int .i64 m)] (.c (.int .i64 (b.leftI m))) := nd_ind fun b ih m hok hm hm2 => by
  obtain ⟨_, hlen, hoks⟩ := nokk_at b hok
  have hl := nrows_len b.kids
  have hA : b.leftI m = Nd.leftsI b.kids (m - 1) := by cases b; rfl
  obtain ⟨R, hR⟩ : ∃ R, Nd.leftsI b.kids (m - 1) = R := ⟨_, rfl⟩
  rw [hA, hR]
  obtain ⟨rs, hrs⟩ : ∃ rs, Nd.rows b.kids = rs := ⟨_, rfl⟩
  rw [hrs] at hl
  unfold ndV
  unfold maxLen at hlen
  refine en Tryz.func26 Tryz.ntmps26 ?_
  have ff := (cj @hrs <| cj @hl <| Tryz.results26)
  repeat any_goals (first | refine stW ?_ | exact lfW ff | refine ruW ff ?_ | refine cdW ff ?_ | ((first | refine bdW ff ?_ ?_ | refine bxW ff ?_ ?_ | refine bnW ff ?_ ?_ | refine brW ff ?_ ?_) <;> intro h <;> try (exfalso; first | omega | contradiction)))
  refine lp (ι := { k : Nat × Int // k.1 ≤ b.kids.length ∧ -1 ≤ k.2 ∧ k.2 ≤ 100000 ∧ R = Nd.leftsI (b.kids.drop k.1) k.2 }) (fun k => [(1, .c (.int .i64 k.1.2)), (4, .c (.int .i64 0)), (5, .c (.int .i64 (k.1.1 : Int)))]) (fun _ => [.box 40 b.vs false]) (fun k => b.kids.length - k.1.1) ⟨(0, m - 1), by simp, by simp only; omega, by simp only; omega, by simp [hR]⟩ ?_ ?_
  all_goals simp only [puts, List.foldl_cons, List.foldl_nil, List.set_cons_zero, List.set_cons_succ]
  · refine Le.weak (by simp [subT])
  · rintro ⟨⟨k, n⟩, hk, n1, n2, hI⟩
    simp only at hk n1 n2 hI ⊢
    by_cases hlt : k < b.kids.length
    · obtain ⟨c, hcc⟩ : ∃ c, b.kids[k]? = some c := ⟨_, List.getElem?_eq_getElem hlt⟩
      have hrk : rs[k]? = some c.row := by rw [← hrs]; exact nrows_get hcc
      have hltr : k < rs.length := by omega
      have hrk' := gx hrk
      rw [List.drop_eq_getElem_cons hlt, gx hcc] at hI
      simp only [Nd.leftsI] at hI
      by_cases h0 : 0 ≤ n
      · rw [if_pos h0] at hI
        have hcal := ih c (List.mem_of_getElem? hcc) n (nokks_mem hoks c (List.mem_of_getElem? hcc)) h0 n2
        have hbd := leftI_eq c n h0
        unfold ndV at hcal
        have ff := (cj @hrs <| cj @hl <| cj @hlt <| cj @hltr <| cj @hrk <| cj @hrk' <| cj @h0 <| Tryz.results26)
        repeat any_goals (first | refine stW ?_ | exact lfW ff | refine ruW ff ?_ | refine caW ff (hcal) ?_ | refine cdW ff ?_ | ((first | refine bdW ff ?_ ?_ | refine bxW ff ?_ ?_ | refine bnW ff ?_ ?_ | refine brW ff ?_ ?_) <;> intro h <;> try (exfalso; first | omega | contradiction)))
        exact ⟨⟨(k + 1, c.leftI n), by simp only; omega, by simp only; omega, by simp only; omega, hI⟩, by simp only; omega, wd 1⟩
      · rw [if_neg h0] at hI
        have ff := (cj @hrs <| cj @hl <| cj @hlt <| cj @hltr <| cj @h0 <| Tryz.results26)
        repeat any_goals (first | refine stW ?_ | exact lfW ff | refine ruW ff ?_ | refine cdW ff ?_ | ((first | refine bdW ff ?_ ?_ | refine bxW ff ?_ ?_ | refine bnW ff ?_ ?_ | refine brW ff ?_ ?_) <;> intro h <;> try (exfalso; first | omega | contradiction)))
    · rw [List.drop_of_length_le (by omega)] at hI
      simp only [Nd.leftsI] at hI
      have ff := (cj @hrs <| cj @hl <| cj @hlt <| Tryz.results26)
      repeat any_goals (first | refine stW ?_ | exact lfW ff | refine ruW ff ?_ | refine cdW ff ?_ | ((first | refine bdW ff ?_ ?_ | refine bxW ff ?_ ?_ | refine bnW ff ?_ ?_ | refine brW ff ?_ ?_) <;> intro h <;> try (exfalso; first | omega | contradiction)))
theorem rfew9_a (b : Nd) (m : Int) (hok : b.okk) (hm : 0 ≤ m) (hm2 : m ≤ 100000) : AC Tryz.prog 15 [ndV b, .c (.int .i64 m)] (.c (.bool (decide ((b.cnt : Int) ≤ m)))) := by
  have h := rleft_a b m hok hm hm2
  rw [← nfew_iff b m hm]
  unfold ndV at h ⊢
  refine en Tryz.func15 Tryz.ntmps15 ?_
  have ff := (Tryz.results15)
  repeat any_goals (first | refine stW ?_ | exact lfW ff | refine ruW ff ?_ | refine caW ff (h) ?_ | refine cdW ff ?_ | ((first | refine bdW ff ?_ ?_ | refine bxW ff ?_ ?_ | refine bnW ff ?_ ?_ | refine brW ff ?_ ?_) <;> intro h <;> try (exfalso; first | omega | contradiction)))
def rowN (l : List Nd) : Nd := ⟨1, ⟨#[]⟩, 0, l⟩
theorem rtoRow_a (l : List Nd) : AC Tryz.prog 14 [.c (.sl (Nd.rows l))] (ndV (rowN l)) := by
  have e : ndV (rowN l) = .agg [.c (.int .i64 1), .c (.str ⟨#[]⟩), .c (.int .i64 0), .c (.sl (Nd.rows l))] := rfl
  rw [e]
  refine en Tryz.func14 Tryz.ntmps14 ?_
  have ff := (Tryz.results14)
  repeat any_goals (first | refine stW ?_ | exact lfW ff | refine ruW ff ?_ | refine cdW ff ?_ | ((first | refine bdW ff ?_ ?_ | refine bxW ff ?_ ?_ | refine bnW ff ?_ ?_ | refine brW ff ?_ ?_) <;> intro h <;> try (exfalso; first | omega | contradiction)))
end Go.Proofs.YtnpenchciinmmaaGreat
