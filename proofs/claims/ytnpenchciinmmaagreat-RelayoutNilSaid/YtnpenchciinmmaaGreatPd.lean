/-
  Texts of nodes on the abstract machine: the program's checks.
-/
import Derived.Test.YtnpenchciinmmaaGreatPb
import Derived.Lib.Strings
import Derived.Lib.Slices
import Derived.Lib.Walk
import Derived.Lib.Bytealg
namespace Go.Proofs.YtnpenchciinmmaaGreat
open Go.RowKit
set_option linter.unusedSimpArgs false
set_option linter.unusedVariables false
set_option maxRecDepth 100000

theorem byte_at2 {s : ByteArray} {k : Nat} (h : k < s.size) : ∃ b, s.data.toList[k]? = some b ∧ s.data[k]? = some b ∧ s.data.toList.drop k = b :: s.data.toList.drop (k + 1) ∧ (k : Int) < (s.size : Int) ∧ (b.toNat < 256) := by
  have hl : k < s.data.toList.length := by simpa using h
  refine ⟨s.data.toList[k], List.getElem?_eq_getElem hl, ?_, List.drop_eq_getElem_cons hl, by omega, UInt8.toNat_lt _⟩
  rw [← Array.getElem?_toList]; exact List.getElem?_eq_getElem hl
theorem byte_end2 {s : ByteArray} {k : Nat} (h : ¬ k < s.size) : s.data.toList.drop k = [] := List.drop_of_length_le (by simp; omega)
/-! strings.IndexByte, Contains, Cut -/
set_option maxHeartbeats 1000000 in
theorem slite_c (s : ByteArray) (c : Int) (w : World) : Calls Tryz.prog 127 #[.string s, .int .u8 c] w fun e w' => e = .returned (.int .i64 (Lib.indexByte s.data.toList c.toNat.toUInt8)) ∧ w' = w := by
  go_enter Tryz.func127, Tryz.ntmps127
  go_wp2
  rw [run_callFunc_extern Tryz.func164 (by kernel_rfl) (by kernel_rfl) (by kernel_rfl) (e := Extern.BytealgIndexByte.indexByte) (by kernel_rfl), Lib.run_indexByteString]
  simp only [Result.andThen]
  rw [Oper.upon_value]
  go_wp2
  go_ret
  exact ⟨rfl, rfl⟩
theorem idx_wf (l : List UInt8) (c : UInt8) (h : l.length ≤ maxLen) : (Lit.int .i64 (Lib.indexByte l c)).wf = true := by
  have h1 := Lib.indexByte_ge l c
  have h2 : Lib.indexByte l c ≤ (l.length : Int) := by
    rcases idx_split l c with ⟨e, _⟩ | ⟨w, r, e1, e2, _⟩
    · omega
    · have : l.length = w.length + (r.length + 1) := by rw [e1]; simp
      omega
  have a1 : IntKind.i64.min = -9223372036854775808 := by decide +kernel
  have a2 : IntKind.i64.max = 9223372036854775807 := by decide +kernel
  unfold maxLen at h
  simp [Lit.wf, a1, a2]
  omega
theorem slite_a (s : ByteArray) (c : Int) : AC Tryz.prog 127 [.c (.str s), .c (.int .u8 c)] (.c (.int .i64 (Lib.indexByte s.data.toList c.toNat.toUInt8))) := by
  intro S w us hS hus
  simp only [CVs, CV, RdC] at hus
  obtain ⟨u, ur, rfl, ⟨rfl, hs⟩, u', ur', rfl, ⟨rfl, _⟩, rfl⟩ := hus
  refine (slite_c _ _ w).mono ?_
  rintro e w' ⟨rfl, rfl⟩
  exact ⟨_, S, rfl, Keep.refl _, Ar.refl _ _, fun b j h => .inl h, by simp only [CV, RdC]; exact ⟨trivial, idx_wf _ _ (by simpa using hs)⟩⟩
theorem sIndexByte_a (s : ByteArray) (c : Int) : AC Tryz.prog 94 [.c (.str s), .c (.int .u8 c)] (.c (.int .i64 (Lib.indexByte s.data.toList c.toNat.toUInt8))) := by
  have h := slite_a s c
  refine en Tryz.func94 Tryz.ntmps94 ?_
  have ff := (Tryz.results94)
  repeat any_goals (first | refine stW ?_ | exact lfW ff | refine ruW ff ?_ | refine caW ff (h) ?_ | refine cdW ff ?_ | ((first | refine bdW ff ?_ ?_ | refine bxW ff ?_ ?_ | refine bnW ff ?_ ?_ | refine brW ff ?_ ?_) <;> intro h <;> try (exfalso; first | omega | contradiction)))
theorem sLite_a (s t : ByteArray) (b : UInt8) (h1 : t.size = 1) (hb : t.data.toList[0]? = some b) : AC Tryz.prog 163 [.c (.str s), .c (.str t)] (.c (.int .i64 (Lib.indexByte s.data.toList b))) := by
  have hL := slite_a s b.toNat
  rw [show ((b.toNat : Int)).toNat.toUInt8 = b by simp] at hL
  have hb' : t.data[0]? = some b := by rw [← Array.getElem?_toList]; exact hb
  have e1 : (t.size : Int) = 1 := by omega
  have hs0 : t = s → Lib.indexByte s.data.toList b = 0 := fun e => by
    subst e
    cases hd : t.data.toList with
    | nil => rw [hd] at hb; simp at hb
    | cons c r => rw [hd] at hb; simp at hb; subst hb; simp [Lib.indexByte]
  by_cases htq : t = s
  · have hz := hs0 htq
    subst htq
    refine en Tryz.func163 Tryz.ntmps163 ?_
    have ff := (cj @e1 <| cj @hz <| Tryz.results163)
    repeat any_goals (first | refine stW ?_ | exact lfW ff | refine ruW ff ?_ | refine cdW ff ?_ | ((first | refine bdW ff ?_ ?_ | refine bxW ff ?_ ?_ | refine bnW ff ?_ ?_ | refine brW ff ?_ ?_) <;> intro h <;> try (exfalso; first | omega | contradiction)))
  · refine en Tryz.func163 Tryz.ntmps163 ?_
    have ff := (cj @e1 <| cj @hb <| cj @hb' <| cj @htq <| Tryz.results163)
    repeat any_goals (first | refine stW ?_ | exact lfW ff | refine ruW ff ?_ | refine caW ff (hL) ?_ | refine cdW ff ?_ | ((first | refine bdW ff ?_ ?_ | refine bxW ff ?_ ?_ | refine bnW ff ?_ ?_ | refine brW ff ?_ ?_) <;> intro h <;> try (exfalso; first | omega | contradiction)))
theorem sIndex_a (s t : ByteArray) (b : UInt8) (h1 : t.size = 1) (hb : t.data.toList[0]? = some b) : AC Tryz.prog 125 [.c (.str s), .c (.str t)] (.c (.int .i64 (Lib.indexByte s.data.toList b))) := by
  have h := sLite_a s t b h1 hb
  refine en Tryz.func125 Tryz.ntmps125 ?_
  have ff := (Tryz.results125)
  repeat any_goals (first | refine stW ?_ | exact lfW ff | refine ruW ff ?_ | refine caW ff (h) ?_ | refine cdW ff ?_ | ((first | refine bdW ff ?_ ?_ | refine bxW ff ?_ ?_ | refine bnW ff ?_ ?_ | refine brW ff ?_ ?_) <;> intro h <;> try (exfalso; first | omega | contradiction)))
theorem idx_any (l : List UInt8) (c : UInt8) : decide (0 ≤ Lib.indexByte l c) = l.any fun b => decide ((b.toNat : Int) = (c.toNat : Int)) := by
  rw [Bool.eq_iff_iff, decide_eq_true_iff, List.any_eq_true]
  have e : ∀ b : UInt8, ((b.toNat : Int) = (c.toNat : Int)) ↔ b = c := fun b => ⟨fun h => UInt8.toNat_inj.1 (by omega), fun h => by rw [h]⟩
  simp only [decide_eq_true_eq, e]
  rcases idx_split l c with ⟨h1, h2⟩ | ⟨w, r, h1, h2, _⟩
  · rw [h1]
    exact ⟨fun h => by omega, fun ⟨x, hx, e⟩ => absurd e (h2 x hx)⟩
  · rw [h2]
    exact ⟨fun _ => ⟨c, by rw [h1]; simp, rfl⟩, fun _ => by omega⟩
theorem sContains_a (s t : ByteArray) (b : UInt8) (h1 : t.size = 1) (hb : t.data.toList[0]? = some b) : AC Tryz.prog 90 [.c (.str s), .c (.str t)] (.c (.bool (hasB s b.toNat))) := by
  have h := sIndex_a s t b h1 hb
  have e : hasB s b.toNat = decide (0 ≤ Lib.indexByte s.data.toList b) := (idx_any _ _).symm
  rw [e]
  refine en Tryz.func90 Tryz.ntmps90 ?_
  have ff := (Tryz.results90)
  repeat any_goals (first | refine stW ?_ | exact lfW ff | refine ruW ff ?_ | refine caW ff (h) ?_ | refine cdW ff ?_ | ((first | refine bdW ff ?_ ?_ | refine bxW ff ?_ ?_ | refine bnW ff ?_ ?_ | refine brW ff ?_ ?_) <;> intro h <;> try (exfalso; first | omega | contradiction)))
def cutV (s : ByteArray) (b : UInt8) : V :=
  if 0 ≤ Lib.indexByte s.data.toList b then .tup [.c (.str (s.extract 0 (Lib.indexByte s.data.toList b).toNat)), .c (.str (s.extract ((Lib.indexByte s.data.toList b).toNat + 1) s.size)), .c (.bool true)]
  else .tup [.c (.str s), .c (.str ⟨#[]⟩), .c (.bool false)]
theorem sCutL_a (s t : ByteArray) (b : UInt8) (hs : s.size ≤ maxLen) (h1 : t.size = 1) (hb : t.data.toList[0]? = some b) : AC Tryz.prog 126 [.c (.str s), .c (.str t)] (cutV s b) := by
  unfold maxLen at hs
  have hL := sLite_a s t b h1 hb
  have e1 : (t.size : Int) = 1 := by omega
  unfold cutV
  rcases idx_split s.data.toList b with ⟨i1, _⟩ | ⟨w, r, i1, i2, _⟩
  · rw [i1] at hL ⊢
    rw [if_neg (by omega)]
    refine en Tryz.func126 Tryz.ntmps126 ?_
    have ff := (cj @e1 <| Tryz.results126)
    repeat any_goals (first | refine stW ?_ | exact lfW ff | refine ruW ff ?_ | refine caW ff (hL) ?_ | refine cdW ff ?_ | ((first | refine bdW ff ?_ ?_ | refine bxW ff ?_ ?_ | refine bnW ff ?_ ?_ | refine brW ff ?_ ?_) <;> intro h <;> try (exfalso; first | omega | contradiction)))
  · have hl : s.size = w.length + (r.length + 1) := by
      have : s.data.toList.length = w.length + (r.length + 1) := by rw [i1]; simp
      simpa using this
    rw [i2] at hL ⊢
    rw [if_pos (by omega)]
    have q1 : (0 : Int) ≤ (w.length : Int) := by omega
    have q2 : (w.length : Int) ≤ (s.size : Int) := by omega
    have q3 : (w.length : Int) + 1 ≤ (s.size : Int) := by omega
    have q4 : w.length ≤ s.size := by omega
    have q5 : ((w.length : Int) + 1).toNat = w.length + 1 := by omega
    have q6 : (0 : Int) ≤ (w.length : Int) + 1 := by omega
    rw [show (w.length : Int).toNat = w.length by simp]
    refine en Tryz.func126 Tryz.ntmps126 ?_
    have ff := (cj @e1 <| cj @q1 <| cj @q2 <| cj @q3 <| cj @q4 <| cj @q5 <| cj @q6 <| Tryz.results126)
    repeat any_goals (first | refine stW ?_ | exact lfW ff | refine ruW ff ?_ | refine caW ff (hL) ?_ | refine cdW ff ?_ | ((first | refine bdW ff ?_ ?_ | refine bxW ff ?_ ?_ | refine bnW ff ?_ ?_ | refine brW ff ?_ ?_) <;> intro h <;> try (exfalso; first | omega | contradiction)))
theorem sCut_a (s t : ByteArray) (b : UInt8) (hs : s.size ≤ maxLen) (h1 : t.size = 1) (hb : t.data.toList[0]? = some b) : AC Tryz.prog 92 [.c (.str s), .c (.str t)] (cutV s b) := by
  have h := sCutL_a s t b hs h1 hb
  unfold cutV at h ⊢
  split at h
  · rename_i hq
    rw [if_pos hq]
    refine en Tryz.func92 Tryz.ntmps92 ?_
    have ff := (Tryz.results92)
    repeat any_goals (first | refine stW ?_ | exact lfW ff | refine ruW ff ?_ | refine caW ff (h) ?_ | refine cdW ff ?_ | ((first | refine bdW ff ?_ ?_ | refine bxW ff ?_ ?_ | refine bnW ff ?_ ?_ | refine brW ff ?_ ?_) <;> intro h <;> try (exfalso; first | omega | contradiction)))
  · rename_i hq
    rw [if_neg hq]
    refine en Tryz.func92 Tryz.ntmps92 ?_
    have ff := (Tryz.results92)
    repeat any_goals (first | refine stW ?_ | exact lfW ff | refine ruW ff ?_ | refine caW ff (h) ?_ | refine cdW ff ?_ | ((first | refine bdW ff ?_ ?_ | refine bxW ff ?_ ?_ | refine bnW ff ?_ ?_ | refine brW ff ?_ ?_) <;> intro h <;> try (exfalso; first | omega | contradiction)))
/-! the texts -/
theorem or_low : ∀ b : Fin 256, letI_ (b.val : Int) = (decide (97 ≤ orI .u8 (b.val : Int) 32) && decide (orI .u8 (b.val : Int) 32 ≤ 122)) := by decide +kernel
theorem pletters_a (s : ByteArray) (hs : s.size ≤ maxLen) : AC Tryz.prog 89 [.c (.str s)] (.c (.bool (allB letI_ s))) := by
  unfold maxLen at hs
  refine en Tryz.func89 Tryz.ntmps89 ?_
  have ff := (Tryz.results89)
  repeat any_goals (first | refine stW ?_ | exact lfW ff | refine ruW ff ?_ | refine cdW ff ?_ | ((first | refine bdW ff ?_ ?_ | refine bxW ff ?_ ?_ | refine bnW ff ?_ ?_ | refine brW ff ?_ ?_) <;> intro h <;> try (exfalso; first | omega | contradiction)))
  refine lp (ι := { k : Nat // k ≤ s.size ∧ allB letI_ s = (s.data.toList.drop k).all fun b => letI_ b.toNat }) (fun k => [(2, .c (.bool false)), (3, .c (.int .i64 (k.1 : Int)))]) (fun _ => []) (fun k => s.size - k.1) ⟨0, by simp [allB]⟩ ?_ ?_
  all_goals simp only [puts, List.foldl_cons, List.foldl_nil, List.set_cons_zero, List.set_cons_succ]
  · refine Le.weak (by simp [subT])
  · rintro ⟨k, hk, hI⟩
    simp only
    by_cases hlt : k < s.size
    · obtain ⟨b, hb, hb', hd, hlt', h256⟩ := byte_at2 hlt
      rw [hd, List.all_cons] at hI
      have ho := or_low ⟨b.toNat, h256⟩
      simp only at ho
      obtain ⟨c, hc⟩ : ∃ c : Int, (b.toNat : Int) = c := ⟨_, rfl⟩
      rw [hc] at hI ho
      rw [ho] at hI
      obtain ⟨d, hdd⟩ : ∃ d, orI .u8 c 32 = d := ⟨_, rfl⟩
      rw [hdd] at hI
      clear ho
      by_cases h : 97 ≤ d ∧ d ≤ 122
      · rw [decide_eq_true h.1, decide_eq_true h.2, Bool.true_and, Bool.true_and] at hI
        have ff := (cj @hlt <| cj @hlt' <| cj @hb <| cj @hb' <| cj @hc <| cj @hdd <| cj (h.1) <| cj (h.2) <| Tryz.results89)
        repeat any_goals (first | refine stW ?_ | exact lfW ff | refine ruW ff ?_ | refine cdW ff ?_ | ((first | refine bdW ff ?_ ?_ | refine bxW ff ?_ ?_ | refine bnW ff ?_ ?_ | refine brW ff ?_ ?_) <;> intro h <;> try (exfalso; first | omega | contradiction)))
        exact ⟨⟨k + 1, by omega, hI⟩, by simp only; omega, wd 0⟩
      · have hI' : allB letI_ s = false := by
          rw [hI]
          by_cases h97 : 97 ≤ d
          · rw [decide_eq_false (fun e => h ⟨h97, e⟩), Bool.and_false, Bool.false_and]
          · rw [decide_eq_false h97, Bool.false_and, Bool.false_and]
        clear hI
        have ff := (cj @hlt <| cj @hlt' <| cj @hb <| cj @hb' <| cj @hc <| cj @hdd <| Tryz.results89)
        repeat any_goals (first | refine stW ?_ | exact lfW ff | refine ruW ff ?_ | refine cdW ff ?_ | ((first | refine bdW ff ?_ ?_ | refine bxW ff ?_ ?_ | refine bnW ff ?_ ?_ | refine brW ff ?_ ?_) <;> intro h <;> try (exfalso; first | omega | contradiction)))
    · rw [byte_end2 hlt] at hI
      have hlt' : ¬ (k : Int) < (s.size : Int) := by omega
      have ff := (cj @hlt <| cj @hlt' <| Tryz.results89)
      repeat any_goals (first | refine stW ?_ | exact lfW ff | refine ruW ff ?_ | refine cdW ff ?_ | ((first | refine bdW ff ?_ ?_ | refine bxW ff ?_ ?_ | refine bnW ff ?_ ?_ | refine brW ff ?_ ?_) <;> intro h <;> try (exfalso; first | omega | contradiction)))
theorem size0 (s : ByteArray) : decide (s = ⟨#[]⟩) = decide (s.size = 0) := by
  rw [decide_eq_decide]
  exact ⟨fun h => by rw [h]; rfl, fun h => by
    cases s with
    | mk d => congr 1; exact Array.eq_empty_of_size_eq_zero h⟩
theorem pdigits_a (s : ByteArray) (hs : s.size ≤ maxLen) : AC Tryz.prog 93 [.c (.str s)] (.c (.bool (digitsB s))) := by
  have h0 := size0 s
  unfold maxLen at hs
  unfold digitsB
  rw [← h0]
  refine en Tryz.func93 Tryz.ntmps93 ?_
  have ff := (Tryz.results93)
  repeat any_goals (first | refine stW ?_ | exact lfW ff | refine ruW ff ?_ | refine cdW ff ?_ | ((first | refine bdW ff ?_ ?_ | refine bxW ff ?_ ?_ | refine bnW ff ?_ ?_ | refine brW ff ?_ ?_) <;> intro h <;> try (exfalso; first | omega | contradiction)))
  refine lp (ι := { k : Nat // k ≤ s.size ∧ allB digI s = (s.data.toList.drop k).all fun b => digI b.toNat }) (fun k => [(2, .c (.bool false)), (3, .c (.int .i64 (k.1 : Int)))]) (fun _ => []) (fun k => s.size - k.1) ⟨0, by simp [allB]⟩ ?_ ?_
  all_goals simp only [puts, List.foldl_cons, List.foldl_nil, List.set_cons_zero, List.set_cons_succ]
  · refine Le.weak (by simp [subT])
  · rintro ⟨k, hk, hI⟩
    simp only
    by_cases hlt : k < s.size
    · obtain ⟨b, hb, hb', hd, hlt', _⟩ := byte_at2 hlt
      rw [hd, List.all_cons] at hI
      obtain ⟨c, hc⟩ : ∃ c : Int, (b.toNat : Int) = c := ⟨_, rfl⟩
      rw [hc] at hI
      cases e : digI c with
      | true =>
        rw [e, Bool.true_and] at hI
        simp [digI] at e
        have ff := (cj @hlt <| cj @hlt' <| cj @hb <| cj @hb' <| cj @hc <| cj (e.1) <| cj (e.2) <| Tryz.results93)
        repeat any_goals (first | refine stW ?_ | exact lfW ff | refine ruW ff ?_ | refine cdW ff ?_ | ((first | refine bdW ff ?_ ?_ | refine bxW ff ?_ ?_ | refine bnW ff ?_ ?_ | refine brW ff ?_ ?_) <;> intro h <;> try (exfalso; first | omega | contradiction)))
        exact ⟨⟨k + 1, by omega, hI⟩, by simp only; omega, wd 0⟩
      | false =>
        rw [e, Bool.false_and] at hI
        simp [digI] at e
        have ff := (cj @hlt <| cj @hlt' <| cj @hb <| cj @hb' <| cj @hc <| Tryz.results93)
        repeat any_goals (first | refine stW ?_ | exact lfW ff | refine ruW ff ?_ | refine cdW ff ?_ | ((first | refine bdW ff ?_ ?_ | refine bxW ff ?_ ?_ | refine bnW ff ?_ ?_ | refine brW ff ?_ ?_) <;> intro h <;> try (exfalso; first | omega | contradiction)))
    · rw [byte_end2 hlt, List.all_nil] at hI
      rw [hI, Bool.true_and]
      have hlt' : ¬ (k : Int) < (s.size : Int) := by omega
      have ff := (cj @hlt <| cj @hlt' <| Tryz.results93)
      repeat any_goals (first | refine stW ?_ | exact lfW ff | refine ruW ff ?_ | refine cdW ff ?_ | ((first | refine bdW ff ?_ ?_ | refine bxW ff ?_ ?_ | refine bnW ff ?_ ?_ | refine brW ff ?_ ?_) <;> intro h <;> try (exfalso; first | omega | contradiction)))
theorem pplain_a (s : ByteArray) (hs : s.size ≤ maxLen) : AC Tryz.prog 58 [.c (.str s)] (.c (.bool (decide (s.size ≤ 200) && allB prtI s))) := by
  unfold maxLen at hs
  refine en Tryz.func58 Tryz.ntmps58 ?_
  have ff := (Tryz.results58)
  repeat any_goals (first | refine stW ?_ | exact lfW ff | refine ruW ff ?_ | refine cdW ff ?_ | ((first | refine bdW ff ?_ ?_ | refine bxW ff ?_ ?_ | refine bnW ff ?_ ?_ | refine brW ff ?_ ?_) <;> intro h <;> try (exfalso; first | omega | contradiction)))
  refine lp (ι := { k : Nat // k ≤ s.size ∧ allB prtI s = (s.data.toList.drop k).all fun b => prtI b.toNat }) (fun k => [(2, .c (.bool false)), (3, .c (.int .i64 (k.1 : Int)))]) (fun _ => []) (fun k => s.size - k.1) ⟨0, by simp [allB]⟩ ?_ ?_
  all_goals simp only [puts, List.foldl_cons, List.foldl_nil, List.set_cons_zero, List.set_cons_succ]
  · refine Le.weak (by simp [subT])
  · rintro ⟨k, hk, hI⟩
    simp only
    by_cases hlt : k < s.size
    · obtain ⟨b, hb, hb', hd, hlt', _⟩ := byte_at2 hlt
      rw [hd, List.all_cons] at hI
      obtain ⟨c, hc⟩ : ∃ c : Int, (b.toNat : Int) = c := ⟨_, rfl⟩
      rw [hc] at hI
      cases e : prtI c with
      | true =>
        rw [e, Bool.true_and] at hI
        simp [prtI] at e
        have ff := (cj @hlt <| cj @hlt' <| cj @hb <| cj @hb' <| cj @hc <| cj (e.1) <| cj (e.2) <| Tryz.results58)
        repeat any_goals (first | refine stW ?_ | exact lfW ff | refine ruW ff ?_ | refine cdW ff ?_ | ((first | refine bdW ff ?_ ?_ | refine bxW ff ?_ ?_ | refine bnW ff ?_ ?_ | refine brW ff ?_ ?_) <;> intro h <;> try (exfalso; first | omega | contradiction)))
        exact ⟨⟨k + 1, by omega, hI⟩, by simp only; omega, wd 0⟩
      | false =>
        rw [e, Bool.false_and] at hI
        simp [prtI] at e
        rw [hI, Bool.and_false]
        have ff := (cj @hlt <| cj @hlt' <| cj @hb <| cj @hb' <| cj @hc <| Tryz.results58)
        repeat any_goals (first | refine stW ?_ | exact lfW ff | refine ruW ff ?_ | refine cdW ff ?_ | ((first | refine bdW ff ?_ ?_ | refine bxW ff ?_ ?_ | refine bnW ff ?_ ?_ | refine brW ff ?_ ?_) <;> intro h <;> try (exfalso; first | omega | contradiction)))
    · rw [byte_end2 hlt, List.all_nil] at hI
      rw [hI, Bool.and_true]
      have hlt' : ¬ (k : Int) < (s.size : Int) := by omega
      have e : ((s.size : Int) ≤ 200) = (s.size ≤ 200) := by rw [eq_iff_iff]; omega
      have ff := (cj @hlt <| cj @hlt' <| cj @e <| Tryz.results58)
      repeat any_goals (first | refine stW ?_ | exact lfW ff | refine ruW ff ?_ | refine cdW ff ?_ | ((first | refine bdW ff ?_ ?_ | refine bxW ff ?_ ?_ | refine bnW ff ?_ ?_ | refine brW ff ?_ ?_) <;> intro h <;> try (exfalso; first | omega | contradiction)))
theorem paccent_a (s : ByteArray) : AC Tryz.prog 59 [.c (.str s)] (.c (.bool (inT accL s))) := by
  have e : inT accL s = (decide (s = ⟨#[104, 97, 116]⟩) || (decide (s = ⟨#[98, 97, 114]⟩) || (decide (s = ⟨#[118, 101, 99]⟩) || (decide (s = ⟨#[100, 111, 116]⟩) || (decide (s = ⟨#[116, 105, 108, 100, 101]⟩) || decide (s = ⟨#[99, 104, 101, 99, 107]⟩)))))) := by
    simp only [inT, accL, List.any_cons, List.any_nil, Bool.or_false, @eq_comm _ _ s]
  rw [e]
  refine en Tryz.func59 Tryz.ntmps59 ?_
  have ff := (Tryz.results59)
  repeat any_goals (first | refine stW ?_ | exact lfW ff | refine ruW ff ?_ | refine cdW ff ?_ | ((first | refine bdW ff ?_ ?_ | refine bxW ff ?_ ?_ | refine bnW ff ?_ ?_ | refine brW ff ?_ ?_) <;> intro h <;> try (exfalso; first | omega | contradiction)))
theorem pkeyword_a (s : ByteArray) : AC Tryz.prog 91 [.c (.str s)] (.c (.bool (inT keywL s))) := by
  have e : inT keywL s = (decide (s = ⟨#[102, 114, 97, 99]⟩) || (decide (s = ⟨#[114, 111, 111, 116]⟩) || (decide (s = ⟨#[109, 97, 116, 114, 105, 120]⟩) || decide (s = ⟨#[102, 101, 110, 99, 101]⟩)))) := by
    simp only [inT, keywL, List.any_cons, List.any_nil, Bool.or_false, @eq_comm _ _ s]
  rw [e]
  refine en Tryz.func91 Tryz.ntmps91 ?_
  have ff := (Tryz.results91)
  repeat any_goals (first | refine stW ?_ | exact lfW ff | refine ruW ff ?_ | refine cdW ff ?_ | ((first | refine bdW ff ?_ ?_ | refine bxW ff ?_ ?_ | refine bnW ff ?_ ?_ | refine brW ff ?_ ?_) <;> intro h <;> try (exfalso; first | omega | contradiction)))
theorem pempty_a (s : ByteArray) : AC Tryz.prog 55 [.c (.str s)] (.c (.bool (decide (s = ⟨#[]⟩)))) := by
  refine en Tryz.func55 Tryz.ntmps55 ?_
  have ff := (Tryz.results55)
  repeat any_goals (first | refine stW ?_ | exact lfW ff | refine ruW ff ?_ | refine cdW ff ?_ | ((first | refine bdW ff ?_ ?_ | refine bxW ff ?_ ?_ | refine bnW ff ?_ ?_ | refine brW ff ?_ ?_) <;> intro h <;> try (exfalso; first | omega | contradiction)))
end Go.Proofs.YtnpenchciinmmaaGreat
