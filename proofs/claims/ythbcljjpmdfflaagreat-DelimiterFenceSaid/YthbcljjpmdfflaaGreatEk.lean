/-
 strings.IndexRune, strings.ContainsRune at a rune above ASCII, in the string of the delimiters; delimiter.pair.
-/
import Derived.Test.YthbcljjpmdfflaaGreatEf
import Derived.Test.YthbcljjpmdfflaaGreatHa
import Derived.Laws.Runes
import Derived.Lib.IndexLaws
namespace Go.Proofs.YthbcljjpmdfflaaGreat
open Go.RowKit
set_option linter.unusedSimpArgs false
set_option linter.unusedVariables false
set_option maxRecDepth 1000000
set_option maxHeartbeats 1000000 in
theorem validRune_c (r : Int) (w : World) : Calls Tryz.prog 90 #[.int .i32 r] w fun e w' => e = .returned (.bool (validRune r)) ∧ w' = w := by
 go_enter Tryz.func90, Tryz.ntmps90
 go_wp2
 all_goals go_ret
 all_goals refine ⟨?_, rfl⟩
 all_goals simp [validRune]
 all_goals omega
set_option maxHeartbeats 4000000 in
theorem indexRune_bad (s : ByteArray) (r : Int) (w : World) (h0 : 128 ≤ r) (h1 : r ≤ 1114111) (h2 : r ≠ 65533) (h3 : validRune r = false) : Calls Tryz.prog 71 #[.string s, .int .i32 r] w fun e w' => e = .returned (.int .i64 (-1)) ∧ w' = w := by
 go_enter Tryz.func71, Tryz.ntmps71
 go_wp2_with (go_at_call 90; refine (validRune_c _ _).mono ?_; rintro e w' ⟨rfl, rfl⟩)
 go_ret
 exact ⟨rfl, rfl⟩
theorem indexByte_high : ∀ (l : List UInt8) (c : UInt8), (∀ x ∈ l, x.toNat < 128) → 128 ≤ c.toNat → Lib.indexByte l c = -1
 | [], c, _, _ => rfl
 | x :: l, c, h, hc => by
   have hx : x ≠ c := fun e => by have := h x List.mem_cons_self; rw [e] at this; omega
   have ih := indexByte_high l c (fun y hy => h y (List.mem_cons_of_mem _ hy)) hc
   simp [Lib.indexByte, hx, ih]
theorem pairD_low : ∀ x ∈ pairD.data.toList, x.toNat < 128 := by decide
theorem pair_idx (a e : Nat) (c : UInt8) (h : 128 ≤ c.toNat) : Lib.indexByte (pairD.extract a e).data.toList c = -1 := indexByte_high _ _ (fun x hx => pairD_low x (mem_extract hx)) h
theorem u8_back (b : UInt8) : ((b.toNat : Int)).toNat.toUInt8 = b := by simp
theorem enc_forms (r : Int) (h0 : 128 ≤ r) (h3 : validRune r = true) : (∃ a b : UInt8, 128 ≤ b.toNat ∧ Utf8.encode r = ⟨#[a, b]⟩) ∨ (∃ a b c : UInt8, 128 ≤ c.toNat ∧ Utf8.encode r = ⟨#[a, b, c]⟩) ∨ (∃ a b c d : UInt8, 128 ≤ d.toNat ∧ Utf8.encode r = ⟨#[a, b, c, d]⟩) := by
 have hc : ¬ r.toNat < 128 := by omega
 rw [← validRune_eq] at h3
 unfold Utf8.encode
 simp only [h3, if_true, hc, if_false]
 split
 · exact .inl ⟨_, _, by simp; omega, rfl⟩
 · split
   · exact .inr (.inl ⟨_, _, _, by simp; omega, rfl⟩)
   · exact .inr (.inr ⟨_, _, _, _, by simp; omega, rfl⟩)
theorem validRune_a (r : Int) : AC Tryz.prog 90 [.c (.int .i32 r)] (.c (.bool (validRune r))) := by
 intro S w us hS hus
 simp only [CVs, CV, RdC] at hus
 obtain ⟨u, ur, rfl, ⟨rfl, _⟩, rfl⟩ := hus
 refine (validRune_c r w).mono ?_
 rintro e w' ⟨rfl, rfl⟩
 exact ⟨_, S, rfl, Keep.refl _, Ar.refl _ _, fun b j h => .inl h, by simp only [CV, RdC]⟩
theorem pairIdx_a (a e : Nat) (c : UInt8) (h : 128 ≤ c.toNat) : AC Tryz.prog 89 [.c (.str (pairD.extract a e)), .c (.int .u8 c.toNat)] (.c (.int .i64 (-1))) := by
 intro S w us hS hus
 simp only [CVs, CV, RdC] at hus
 obtain ⟨u, ur, rfl, ⟨rfl, _⟩, u', ur', rfl, ⟨rfl, _⟩, rfl⟩ := hus
 refine (indexByte_c _ _ w).mono ?_
 rintro e w' ⟨rfl, rfl⟩
 rw [u8_back, pair_idx _ _ _ h]
 exact ⟨_, S, rfl, Keep.refl _, Ar.refl _ _, fun b j h => .inl h, by simp only [CV, RdC]; exact ⟨trivial, by decide +kernel⟩⟩
theorem pairD_size : pairD.size = 11 := rfl
theorem pairD_1 : pairD.data.toList[1]? = some 41 := rfl
theorem pairD_2 : pairD.data.toList[2]? = some 123 := rfl
theorem pairD_3 : pairD.data.toList[3]? = some 125 := rfl
set_option maxHeartbeats 4000000 in
theorem indexRune_def (r : Int) (h0 : 128 ≤ r) (h1 : r ≤ 1114111) (h2 : r ≠ 65533) (h3 : validRune r = true) : AC Tryz.prog 71 [.c (.str pairD), .c (.int .i32 r)] (.c (.int .i64 (-1))) := by
 have hcv : ∀ W : World, (convert 21 9 (.int .i32 r)).run Tryz.prog W = .ok (.string (Utf8.encode r)) W := fun W => run_convert_int_string W _ _ _ _ (by kernel_rfl) (by kernel_rfl)
 have hf := enc_forms r h0 h3
 obtain ⟨R, hR⟩ : ∃ R, Utf8.encode r = R := ⟨_, rfl⟩
 rw [hR] at hf hcv
 have hvr := validRune_a r
 rw [h3] at hvr
 have hR4 : R.size ≤ maxLen := by
  unfold maxLen
  rcases hf with ⟨a, b, hb, rfl⟩ | ⟨a, b, c, hb, rfl⟩ | ⟨a, b, c, d, hb, rfl⟩
  · show 2 ≤ _; omega
  · show 3 ≤ _; omega
  · show 4 ≤ _; omega
 have n1 : ¬ r < 128 := by omega
 have n0 : 0 ≤ r := by omega
 refine en Tryz.func71 Tryz.ntmps71 ?_
 have ff := (cj @n1 <| cj @n0 <| cj @h2 <| Tryz.results71)
 repeat any_goals (first | refine stN (RegN.mk 1) ?_ | exact lfW ff | refine ruW ff ?_ | refine caW ff (hvr) ?_ | refine cdW ff ?_ | ((first | refine bdW ff ?_ ?_ | refine bxW ff ?_ ?_ | refine bnW ff ?_ ?_ | refine brW ff ?_ ?_) <;> intro h <;> try (exfalso; omega)))
 refine AW.regionS ?_
 refine SW.take 1 ?_
 with_reducible refine aops_run (by simp [List.replicate_succ]; first | exact rfl | exact ⟨rfl, rfl⟩) ?_
 refine aops_done ?_
 simp only [List.drop_succ_cons, List.drop_zero]
 refine SW.op (.c (.str R)) (by simp [gate]) rfl ?_ ?_
 · rintro S0 w0 x a w ⟨g, ht⟩
   have hop := ev_ok ht (.tmp 17)
   simp only [ev, CV, RdC, List.getD_cons_succ, List.getD_cons_zero] at hop
   exact RunOk.pure g (u := .string R) (by simp [execOp, hop.1, hcv]) (by simp only [CV, RdC]; exact ⟨trivial, hR4⟩)
 simp only [St.step, St.put, updH, List.set_cons_succ, List.set_cons_zero]
 refine SW.take 1 ?_
 with_reducible refine aops_run (by simp [List.replicate_succ]; first | exact rfl | exact ⟨rfl, rfl⟩) ?_
 refine aops_done ?_
 simp only [List.drop_succ_cons, List.drop_zero]
 refine SW.nil ?_
 clear hR hcv hR4
 rcases hf with ⟨a, b, hb, rfl⟩ | ⟨a, b, c, hb, rfl⟩ | ⟨a, b, c, d, hb, rfl⟩
 · have hi := pairIdx_a 2 11 b hb
   have q : ¬ (41 : Int) = (b.toNat : Int) := by omega
   have e0 : (ByteArray.mk #[a, b]).size = 2 := rfl
   have ff := (cj @n1 <| cj @pairD_size <| cj @pairD_1 <| cj @e0 <| Tryz.results71)
   repeat any_goals (first | refine stW ?_ | exact lfW ff | refine ruW ff ?_ | refine caW ff (hi) ?_ | refine cdW ff ?_ | ((first | refine bdW ff ?_ ?_ | refine bxW ff ?_ ?_ | refine bnW ff ?_ ?_ | refine brW ff ?_ ?_) <;> intro h <;> try (exfalso; omega)))
   refine LA.loop (LA.round ?_)
   have ff := (cj @n1 <| cj @pairD_size <| cj @pairD_1 <| cj @e0 <| cj @q <| Tryz.results71)
   repeat any_goals (first | refine stW ?_ | exact lfW ff | refine ruW ff ?_ | refine caW ff (hi) ?_ | refine cdW ff ?_ | ((first | refine bdW ff ?_ ?_ | refine bxW ff ?_ ?_ | refine bnW ff ?_ ?_ | refine brW ff ?_ ?_) <;> intro h <;> try (exfalso; omega)))
 · have hi := pairIdx_a 3 11 c hb
   have q : ¬ (123 : Int) = (c.toNat : Int) := by omega
   have e0 : (ByteArray.mk #[a, b, c]).size = 3 := rfl
   have ff := (cj @n1 <| cj @pairD_size <| cj @pairD_2 <| cj @e0 <| Tryz.results71)
   repeat any_goals (first | refine stW ?_ | exact lfW ff | refine ruW ff ?_ | refine caW ff (hi) ?_ | refine cdW ff ?_ | ((first | refine bdW ff ?_ ?_ | refine bxW ff ?_ ?_ | refine bnW ff ?_ ?_ | refine brW ff ?_ ?_) <;> intro h <;> try (exfalso; omega)))
   refine LA.loop (LA.round ?_)
   have ff := (cj @n1 <| cj @pairD_size <| cj @pairD_2 <| cj @e0 <| cj @q <| Tryz.results71)
   repeat any_goals (first | refine stW ?_ | exact lfW ff | refine ruW ff ?_ | refine caW ff (hi) ?_ | refine cdW ff ?_ | ((first | refine bdW ff ?_ ?_ | refine bxW ff ?_ ?_ | refine bnW ff ?_ ?_ | refine brW ff ?_ ?_) <;> intro h <;> try (exfalso; omega)))
 · have hi := pairIdx_a 4 11 d hb
   have q : ¬ (125 : Int) = (d.toNat : Int) := by omega
   have e0 : (ByteArray.mk #[a, b, c, d]).size = 4 := rfl
   have ff := (cj @n1 <| cj @pairD_size <| cj @pairD_3 <| cj @e0 <| Tryz.results71)
   repeat any_goals (first | refine stW ?_ | exact lfW ff | refine ruW ff ?_ | refine caW ff (hi) ?_ | refine cdW ff ?_ | ((first | refine bdW ff ?_ ?_ | refine bxW ff ?_ ?_ | refine bnW ff ?_ ?_ | refine brW ff ?_ ?_) <;> intro h <;> try (exfalso; omega)))
   refine LA.loop (LA.round ?_)
   have ff := (cj @n1 <| cj @pairD_size <| cj @pairD_3 <| cj @e0 <| cj @q <| Tryz.results71)
   repeat any_goals (first | refine stW ?_ | exact lfW ff | refine ruW ff ?_ | refine caW ff (hi) ?_ | refine cdW ff ?_ | ((first | refine bdW ff ?_ ?_ | refine bxW ff ?_ ?_ | refine bnW ff ?_ ?_ | refine brW ff ?_ ?_) <;> intro h <;> try (exfalso; omega)))
set_option maxHeartbeats 4000000 in
theorem indexRune_err (w : World) : Calls Tryz.prog 71 #[.string pairD, .int .i32 65533] w fun e w' => e = .returned (.int .i64 (-1)) ∧ Keep w w' := by
 go_enter Tryz.func71, Tryz.ntmps71
 go_wp2
 go_loopw [5, 6] (fun _ _ w' => ∃ (pos : Nat), w' = w.iter pairD pos) (fun _ _ w' => pairD.size - w'.iterPos w.heap.size)
 case atStart => exact ⟨0, rfl⟩
 case round =>
  obtain ⟨pos, rfl⟩ := hrel
  by_cases hp : pos < pairD.size
  · have ha : (pairD[pos]'hp).toNat < 128 := pairD_low _ (Array.getElem_mem_toList (xs := pairD.data) hp)
    obtain ⟨b, hb⟩ : ∃ b, (pairD[pos]'hp) = b := ⟨_, rfl⟩
    have hnx : ∀ ty, (Instr.next (.pointer (some ⟨w.heap.size, 0, none⟩)) true ty).run Tryz.prog (w.iter pairD pos) = .ok (.tuple #[.bool true, .int .i64 pos, .int .i32 (b.toNat : Int)]) (w.iter pairD (pos + 1)) := fun ty => by rw [run_next_ascii w pairD pos ty hp ha, hb]
    rw [hb] at ha
    go_wp2
    all_goals first
     | (exfalso; omega)
     | (refine ⟨⟨pos + 1, rfl⟩, ?_⟩
        simp; omega)
     | trace_state
  · have hnx : ∀ ty, (Instr.next (.pointer (some ⟨w.heap.size, 0, none⟩)) true ty).run Tryz.prog (w.iter pairD pos) = _ := fun ty => run_next_end w pairD pos ty hp
    go_wp2
    go_ret
    exact ⟨rfl, iter_keep _ _ _⟩
theorem indexRune_high (r : Int) (w : World) (h0 : 128 ≤ r) (h1 : r ≤ 1114111) : Calls Tryz.prog 71 #[.string pairD, .int .i32 r] w fun e w' => e = .returned (.int .i64 (-1)) ∧ Keep w w' := by
 by_cases h2 : r = 65533
 · subst h2; exact indexRune_err w
 · cases h3 : validRune r with
   | false => exact (indexRune_bad pairD r w h0 h1 h2 h3).mono fun e w' h => ⟨h.1, by rw [h.2]; exact Keep.refl _⟩
   | true =>
     have wf : (Lit.int .i32 r).wf = true := by
      have e1 : IntKind.i32.min = -2147483648 := by decide +kernel
      have e2 : IntKind.i32.max = 2147483647 := by decide +kernel
      simp [Lit.wf, e1, e2]; omega
     refine (indexRune_def r h0 h1 h2 h3 (fun _ _ => False) w [.string pairD, .int .i32 r] (fun _ _ h => h.elim) ?_).mono ?_
     · simp only [CVs, CV, RdC]
       exact ⟨_, _, rfl, ⟨rfl, by rw [pairD_size]; decide⟩, _, _, rfl, ⟨rfl, wf⟩, rfl⟩
     · rintro e w' ⟨u, S', rfl, hk, _, _, hv⟩
       simp only [CV, RdC] at hv
       exact ⟨by rw [hv.1], hk⟩
set_option maxHeartbeats 2000000 in
theorem containsRune_high (r : Int) (w : World) (h0 : 128 ≤ r) (h1 : r ≤ 1114111) : Calls Tryz.prog 44 #[.string pairD, .int .i32 r] w fun e w' => e = .returned (.bool false) ∧ Keep w w' := by
 go_enter Tryz.func44, Tryz.ntmps44
 go_wp2_with (go_at_call 71; refine (indexRune_high _ _ h0 h1).mono ?_; rintro e w' ⟨rfl, hk⟩)
 go_ret
 exact ⟨rfl, hk⟩
def pairByte (b : UInt8) : Bool := pairD.data.toList.contains b
def pairB (s : ByteArray) : Bool := s.data.toList.all pairByte && decide (s.size = 2)
def restP (s : ByteArray) (pos : Nat) : Bool := (s.data.toList.drop pos).all pairByte
theorem restP_end {s : ByteArray} {pos : Nat} (h : ¬ pos < s.size) : restP s pos = true := by
 unfold restP
 rw [List.drop_of_length_le (by simpa using h)]
 rfl
theorem restP_step {s : ByteArray} {pos : Nat} (h : pos < s.size) : restP s pos = (pairByte (s[pos]'h) && restP s (pos + 1)) := by
 unfold restP
 have hl : pos < s.data.toList.length := by simpa using h
 rw [List.drop_eq_getElem_cons hl, List.all_cons]
 rfl
theorem pairB_f {s : ByteArray} (h : restP s 0 = false) : pairB s = false := by
 unfold restP at h
 rw [List.drop_zero] at h
 unfold pairB
 rw [h, Bool.false_and]
theorem pairB_t {s : ByteArray} (h : restP s 0 = true) : pairB s = decide (s.size = 2) := by
 unfold restP at h
 rw [List.drop_zero] at h
 unfold pairB
 rw [h, Bool.true_and]
theorem idx_mem : ∀ (l : List UInt8) (c : UInt8), 0 ≤ Lib.indexByte l c ↔ c ∈ l
 | [], c => by simp [Lib.indexByte]
 | x :: l, c => by
   have ih := idx_mem l c
   have hg := Lib.indexByte_ge l c
   by_cases h : x = c
   · subst h; simp [Lib.indexByte]
   · have h2 : ¬ c = x := fun e => h e.symm
     rw [List.mem_cons, or_iff_right h2, ← ih]
     simp only [Lib.indexByte, beq_iff_eq, h, if_false]
     split <;> omega
theorem idx_contains (l : List UInt8) (c : UInt8) : decide (0 ≤ Lib.indexByte l c) = l.contains c := by
 rw [Bool.eq_iff_iff, decide_eq_true_iff, idx_mem, List.contains_iff_mem]
theorem pairByte_low {b : UInt8} (h : pairByte b = true) : b.toNat < 128 := pairD_low b (by simpa [pairByte] using h)
theorem decode_le (s : ByteArray) (i : Nat) : (Utf8.decode s i).1 ≤ 1114111 := by
 unfold Utf8.decode
 dsimp only
 repeat' split
 all_goals first
  | (simp only [Utf8.runeError]; omega)
  | (rename_i h; simp [Utf8.valid] at h ⊢; omega)
  | ((try simp only []); omega)
set_option maxHeartbeats 4000000 in
theorem pair_c (s : ByteArray) (w : World) : Calls Tryz.prog 19 #[.string s] w fun e w' => e = .returned (.bool (pairB s)) ∧ Keep w w' := by
 go_enter Tryz.func19, Tryz.ntmps19
 go_wp2
 go_loopw [2, 4] (fun r c w' => ∃ (pos : Nat), w' = w.iter s pos ∧ r = .bool false ∧ restP s pos = restP s 0) (fun _ _ w' => s.size - w'.iterPos w.heap.size)
 case atStart => exact ⟨0, rfl, rfl, rfl⟩
 case round =>
  obtain ⟨pos, rfl, rfl, hc⟩ := hrel
  by_cases hp : pos < s.size
  · obtain ⟨b, hb⟩ : ∃ b, (s[pos]'hp) = b := ⟨_, rfl⟩
    have hst := restP_step hp
    rw [hb] at hst
    by_cases ha : b.toNat < 128
    · have hnx : ∀ ty, (Instr.next (.pointer (some ⟨w.heap.size, 0, none⟩)) true ty).run Tryz.prog (w.iter s pos) = .ok (.tuple #[.bool true, .int .i64 pos, .int .i32 (b.toNat : Int)]) (w.iter s (pos + 1)) := fun ty => by rw [run_next_ascii w s pos ty hp (by rw [hb]; exact ha), hb]
      have hcr := fun W => containsRune_c pairD b.toNat W (by omega) (by omega)
      rw [u8_back, idx_contains] at hcr
      cases hpb : pairByte b with
      | true =>
        have hcr2 : ∀ W : World, Calls Tryz.prog 44 #[.string pairD, .int .i32 b.toNat] W fun e w' => e = .returned (.bool true) ∧ w' = W := fun W => (hcr W).mono fun e w' h => ⟨by rw [h.1]; exact congrArg _ (congrArg _ hpb), h.2⟩
        go_wp2_with (go_at_call 44; refine (hcr2 _).mono ?_; rintro e w' ⟨rfl, rfl⟩)
        rw [hpb, Bool.true_and] at hst
        exact ⟨⟨pos + 1, rfl, rfl, hst.symm.trans hc⟩, by simp; omega⟩
      | false =>
        have hcr2 : ∀ W : World, Calls Tryz.prog 44 #[.string pairD, .int .i32 b.toNat] W fun e w' => e = .returned (.bool false) ∧ w' = W := fun W => (hcr W).mono fun e w' h => ⟨by rw [h.1]; exact congrArg _ (congrArg _ hpb), h.2⟩
        go_wp2_with (go_at_call 44; refine (hcr2 _).mono ?_; rintro e w' ⟨rfl, rfl⟩)
        go_ret
        rw [hpb, Bool.false_and] at hst
        rw [pairB_f (hc.symm.trans hst)]
        exact ⟨rfl, iter_keep _ _ _⟩
    · have hh := decode_high s pos hp (by rw [hb]; omega)
      have hl := decode_le s pos
      obtain ⟨D, hD⟩ : ∃ D, (Utf8.decode s pos).1 = D := ⟨_, rfl⟩
      rw [hD] at hh hl
      have hnx : ∀ ty, (Instr.next (.pointer (some ⟨w.heap.size, 0, none⟩)) true ty).run Tryz.prog (w.iter s pos) = .ok (.tuple #[.bool true, .int .i64 pos, .int .i32 (D : Int)]) (w.iter s (pos + (Utf8.decode s pos).2)) := fun ty => by rw [run_next_any w s pos ty hp, hD]
      go_wp2_with (go_at_call 44; refine (containsRune_high _ _ (by omega) (by omega)).mono ?_; rintro e w' ⟨rfl, hk⟩)
      go_ret
      have hpb : pairByte b = false := by
       cases e : pairByte b with
       | false => rfl
       | true => exact absurd (pairByte_low e) ha
      rw [hpb, Bool.false_and] at hst
      rw [pairB_f (hc.symm.trans hst)]
      exact ⟨rfl, (iter_keep _ _ _).trans hk⟩
  · have hnx : ∀ ty, (Instr.next (.pointer (some ⟨w.heap.size, 0, none⟩)) true ty).run Tryz.prog (w.iter s pos) = _ := fun ty => run_next_end w s pos ty hp
    have ht := pairB_t (hc.symm.trans (restP_end hp))
    go_wp2
    go_ret
    rw [ht]
    refine ⟨?_, iter_keep _ _ _⟩
    simp
    rw [Bool.eq_iff_iff]
    simp
    omega
theorem pair_a (s : ByteArray) : AC Tryz.prog 19 [.c (.str s)] (.c (.bool (pairB s))) := by
 intro S w us hS hus
 simp only [CVs, CV, RdC] at hus
 obtain ⟨u, ur, rfl, ⟨rfl, _⟩, rfl⟩ := hus
 refine (pair_c s w).mono ?_
 rintro e w' ⟨rfl, hk⟩
 exact ⟨_, S, rfl, hk, ⟨fun _ _ h => h, fun b j v _ hc => hk.cell hc⟩, fun b j h => .inl h, by simp only [CV, RdC]⟩
end Go.Proofs.YthbcljjpmdfflaaGreat
