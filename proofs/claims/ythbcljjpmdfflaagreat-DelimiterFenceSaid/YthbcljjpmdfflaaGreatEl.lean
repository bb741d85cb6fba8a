/-
 Layer 31 on the abstract machine: Fence.
-/
import Derived.Test.YthbcljjpmdfflaaGreatEi
import Derived.Test.YthbcljjpmdfflaaGreatEj
import Derived.Test.YthbcljjpmdfflaaGreatEk
import Derived.Test.YthbcljjpmdfflaaGreatEm
namespace Go.Proofs.YthbcljjpmdfflaaGreat
open Go.RowKit
set_option linter.unusedSimpArgs false
set_option linter.unusedVariables false
set_option maxRecDepth 100000
def sideN (s : ByteArray) (i : Nat) : ByteArray := s.extract i (i + 1)
def fenceR (f : Font) (names : ByteArray) (b : Box) (p : Int) : Box × Int :=
 if f.valid = false ∨ b.validB = false ∨ pairB names = false then (Box.zero, 1)
 else if p < 1 ∨ 100 < p then (Box.zero, 2)
 else rowR [(dlMake f (sideN names 0) (dlNeed f b p) p).1, b.at_ 0 0, (dlMake f (sideN names 1) (dlNeed f b p) p).1] [0, 0, 0]
theorem pair_size {s : ByteArray} (h : pairB s = true) : s.size = 2 := by
 unfold pairB at h
 simp only [Bool.and_eq_true, decide_eq_true_eq] at h
 exact h.2
theorem pair_name {s : ByteArray} (h : pairB s = true) (i : Nat) (hi : i < 2) : nameB (sideN s i) = true := by
 have hs := pair_size h
 unfold pairB at h
 simp only [Bool.and_eq_true, decide_eq_true_eq] at h
 have hm : ∀ b ∈ (sideN s i).data.toList, b ∈ s.data.toList := fun b hb => mem_extract hb
 have hsz : (sideN s i).size = 1 := by unfold sideN; rw [ByteArray.size_extract]; omega
 have hall : (sideN s i).data.toList.all byteOk = true := by
  rw [List.all_eq_true]
  intro b hb
  have := List.all_eq_true.1 h.1 b (hm b hb)
  have hp : ∀ b : UInt8, pairByte b = true → byteOk b = true := by
   intro b hb
   have h2 : b ∈ pairD.data.toList := by simpa [pairByte] using hb
   have : ∀ c ∈ pairD.data.toList, byteOk c = true := by decide
   exact this b h2
  exact hp b this
 unfold nameB
 rw [hall, hsz]; rfl
set_option maxHeartbeats 1600000 in
theorem side_a (f : Font) (names : ByteArray) (need p : Int) (i : Nat) (hi : i < 2) (hs : names.size = 2) (hf : f.Fit) (hz : ∀ s ∈ f.stretches, s.sizes.length ≤ 1000) : AC Tryz.prog 20 [.c (.int .i64 i), .cp f.row 0, .cp [.str names] 0, .cp [.int .i64 need] 0, .cp [.int .i64 p] 0] (boxEV (dlMake f (sideN names i) need p)) := by
 have hsz : (sideN names i).size ≤ maxLen := by unfold sideN; rw [ByteArray.size_extract, hs]; unfold maxLen; omega
 have hm := pmk31_a f (sideN names i) need p hf hsz hz
 have hfr : f.row.length = 22 := by simp [Font.row, Params.list]
 have hfv : f.row.map V.c = f.vs := rfl
 obtain ⟨Y, hY⟩ : ∃ Y, dlMake f (sideN names i) need p = Y := ⟨_, rfl⟩
 rw [hY] at hm ⊢
 unfold sideN at hm
 have hi2 : i ≤ 1 := by omega
 simp only [boxEV, boxV_vs, errV] at hm ⊢
 refine en Tryz.func20 Tryz.ntmps20 ?_
 have ff := (cj @hs <| cj @hfv <| cj @hi2 <| Tryz.results20)
 repeat any_goals (first | refine stW ?_ | exact lfW ff | refine ruW ff ?_ | refine caW ff (hm) ?_ | refine cdW ff ?_ | ((first | refine bdW ff ?_ ?_ | refine bxW ff ?_ ?_ | refine bnW ff ?_ ?_ | refine brW ff ?_ ?_) <;> intro h <;> try (exfalso; omega)))
theorem dlMake_sum {f : Font} (hv : f.valid = true) {p : Int} (h1 : 1 ≤ p) (h2 : p ≤ 100) {name : ByteArray} (hn : nameB name = true) (need : Int) : ∃ L, dlMake f name need p = (L, 0) ∧ L.okk ∧ L.cnt ≤ 8001 := by
 rcases dlMake_ok hv h1 h2 hn need with ⟨_, e⟩ | ⟨_, S, hs, _, _, _, _, e⟩
 · exact ⟨_, e, ⟨(Nat.zero_le _ : 0 ≤ maxLen), (Nat.zero_le _ : 0 ≤ maxLen), trivial⟩, by simp [listB, Box.cnt, Box.cnts]⟩
 · exact ⟨_, e, at_okk _ _ hs.okk, by rw [at_cnt]; exact hs.cnt⟩
set_option maxHeartbeats 6400000 in
theorem pfence_a (f : Font) (names : ByteArray) (b : Box) (p : Int) (hf : f.Fit) (hz : ∀ s ∈ f.stretches, s.sizes.length ≤ 1000) (ho : b.okk) (hc : b.cnt ≤ 800000) (hn : names.size ≤ maxLen) : AC Tryz.prog 7 [.agg f.vs, .c (.str names), boxV b, .c (.int .i64 p)] (boxEV (fenceR f names b p)) := by
 have hfv := fvalid_a f
 have hbv := pValid_a b ho (by omega)
 have hpr := pair_a names
 have hne := pneed31_a f b p hf ho (by omega)
 obtain ⟨N, hN⟩ : ∃ N, dlNeed f b p = N := ⟨_, rfl⟩
 unfold fenceR
 rw [hN] at hne ⊢
 simp only [boxEV, boxV_vs, errV] at hbv hne ⊢
 refine en Tryz.func7 Tryz.ntmps7 ?_
 have ff := (cj @boxEV.eq_1 <| cj @boxV_vs <| cj @errV.eq_1 <| cj @zero_vs <| Tryz.results7)
 repeat any_goals (first | refine stN (RegN.mk 6) ?_ | exact lfW ff | refine ruW ff ?_ | refine caW ff (hfv) ?_ | refine caW ff (hbv) ?_ | refine caW ff (hpr) ?_ | refine caW ff (hne) ?_ | refine cdW ff ?_ | ((first | refine bdW ff ?_ ?_ | refine bxW ff ?_ ?_ | refine bnW ff ?_ ?_ | refine brW ff ?_ ?_) <;> intro h <;> try (exfalso; omega)))
 have hv : f.valid = true := ‹_›
 have hbo : b.validB = true := ‹_›
 have hpn : pairB names = true := ‹_›
 have p1 : 1 ≤ p := by omega
 have p2 : p ≤ 100 := by omega
 rw [if_neg (by simp [hv, hbo, hpn]), if_neg (by omega)]
 obtain ⟨L, hL, l1, l2⟩ := dlMake_sum hv p1 p2 (pair_name hpn 0 (by omega)) N
 obtain ⟨R, hR, r1, r2⟩ := dlMake_sum hv p1 p2 (pair_name hpn 1 (by omega)) N
 have hs0 := side_a f names N p 0 (by omega) (pair_size hpn) hf hz
 have hs1 := side_a f names N p 1 (by omega) (pair_size hpn) hf hz
 have hrow := prow_a [L, b.at_ 0 0, R] [0, 0, 0] ⟨l1, at_okk _ _ ho, r1, trivial⟩ (by simp only [Box.cnts, at_cnt]; omega) (by simp) (by simp)
 have hat := pat_a b 0 0 (by have := valid_dok hbo; cases b; simp only [Box.dok] at this; exact this.1)
 rw [hL] at hs0 ⊢
 rw [hR] at hs1 ⊢
 obtain ⟨Y, hY⟩ : ∃ Y, rowR [L, b.at_ 0 0, R] [0, 0, 0] = Y := ⟨_, rfl⟩
 simp only [hY] at hrow ⊢
 obtain ⟨A, hA⟩ : ∃ A, b.at_ 0 0 = A := ⟨_, rfl⟩
 rw [hA] at hrow hat
 simp only [boxEV, boxV_vs, errV, Box.rows, intsC, List.map_cons, List.map_nil] at hs0 hs1 hrow hat ⊢
 refine AW.frz 0 rfl (by simp [toCs, toC]; exact rfl) (by simp [V.frzs, V.frz]; exact rfl) (by simp [O.frz, V.frzs, V.frz]; exact rfl) ?_
 refine AW.frz 1 rfl (by simp [toCs, toC]; exact rfl) (by simp [V.frzs, V.frz]; exact rfl) (by simp [O.frz, V.frzs, V.frz]; exact rfl) ?_
 refine AW.frz 3 rfl (by simp [toCs, toC]; exact rfl) (by simp [V.frzs, V.frz]; exact rfl) (by simp [O.frz, V.frzs, V.frz]; exact rfl) ?_
 refine AW.frz 5 rfl (by simp [toCs, toC]; exact rfl) (by simp [V.frzs, V.frz]; exact rfl) (by simp [O.frz, V.frzs, V.frz]; exact rfl) ?_
 have ff := (Tryz.results7)
 repeat any_goals (first | refine stN (RegN.mk 13) ?_ | exact lfW ff | refine ruW ff ?_ | refine caW ff (hs0) ?_ | refine caW ff (hs1) ?_ | refine cdW ff ?_ | ((first | refine bdW ff ?_ ?_ | refine bxW ff ?_ ?_ | refine bnW ff ?_ ?_ | refine brW ff ?_ ?_) <;> intro h <;> try (exfalso; omega)))
 refine AW.drawS mixedP (.inl rfl) ?_
 refine TW.take 5 (adraw_go (by simp; first | exact rfl | exact ⟨rfl, rfl⟩ | exact ⟨rfl, rfl, rfl⟩) ?_)
 refine gc0 (hat) Tryz.func22 ?_
 refine adraw_nil ?_
 simp only [List.drop_succ_cons, List.drop_zero]
 refine TW.opZ ⟨.full [[.int .i64 0], [.int .i64 0], [.int .i64 0]], none, none⟩ rfl (fun _ _ h => by cases h) ?_ ?_
 · intro S0 w0 x a w H g hop _
   have h3 : CV x w (.c (.int .i64 3)) (a.eval (.const (.int .i64 3))) := by
    have := hop (.const (.int .i64 3)) (by simp [Op.operands])
    simpa [ev] using this
   have ht : tElem Tryz.prog 31 = some (3, 1, 8) := by simp
   have hz : tZero Tryz.prog 3 = some [.c (.int .i64 0)] := by simp
   exact ok_makeZ g rfl ht h3 h3 hz rfl (by omega) (by omega) (by omega)
 simp only [St.step, St.put, updH, List.set_cons_succ, List.set_cons_zero]
 refine TW.take 6 ?_
 simp only [List.take_succ_cons, List.take_nil, List.take_zero]
 refine gc0 (hrow) Tryz.func21 ?_
 refine adraw_nil (TW.nil ⟨by kernel_rfl, ?_⟩)
 have ff := (cj @boxEV.eq_1 <| Tryz.results7)
 repeat any_goals (first | refine stW ?_ | exact lfW ff | refine ruW ff ?_ | refine cdW ff ?_ | ((first | refine bdW ff ?_ ?_ | refine bxW ff ?_ ?_ | refine bnW ff ?_ ?_ | refine brW ff ?_ ?_) <;> intro h <;> try (exfalso; omega)))
end Go.Proofs.YthbcljjpmdfflaaGreat
