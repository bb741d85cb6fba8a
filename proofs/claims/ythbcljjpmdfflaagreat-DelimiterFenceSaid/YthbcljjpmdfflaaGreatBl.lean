/-
 Layer 28's program on the abstract machine: valid, Valid.
-/
import Derived.Test.YthbcljjpmdfflaaGreatBj
import Derived.Test.YthbcljjpmdfflaaGreatGB
namespace Go.Proofs.YthbcljjpmdfflaaGreat
open Go.RowKit
set_option linter.unusedSimpArgs false
set_option linter.unusedVariables false
set_option maxRecDepth 100000
theorem pvs_bnd (dep : Nat) (l : List Box) (c : Nat) : (Box.pvs dep l c).2 ≤ c + Box.cnts l := (pvs_eq dep l c).1
set_option maxHeartbeats 6400000 in
theorem pvalid_step (b0 : Int) (b1 : ByteArray) (b2 b3 b4 b5 b6 b7 : Int) (kids : List Box) (o : Int) (src : List Int) (dep c : Nat) (hn : b1.size ≤ maxLen) (hs : src.length ≤ maxLen) (hd : dep ≤ 101) (hc : c + Box.cnt ⟨b0, b1, b2, b3, b4, b5, b6, b7, kids, o, src⟩ ≤ 1000000) (ih : ∀ k ∈ kids, ∀ (dep c : Nat), dep ≤ 101 → c + k.cnt ≤ 1000000 → AX Tryz.prog 43 [.cp (Box.row k) 0, .c (.int .i64 ((dep : Nat) : Int)), .ptr 0 0] 3 [.int .i64 ((c : Nat) : Int)] [.int .i64 ((Box.pv dep k c).2 : Int)] (.c (.bool (Box.pv dep k c).1))) : AX Tryz.prog 43 [.cp (Box.row ⟨b0, b1, b2, b3, b4, b5, b6, b7, kids, o, src⟩) 0, .c (.int .i64 ((dep : Nat) : Int)), .ptr 0 0] 3 [.int .i64 ((c : Nat) : Int)] [.int .i64 ((Box.pv dep ⟨b0, b1, b2, b3, b4, b5, b6, b7, kids, o, src⟩ c).2 : Int)] (.c (.bool (Box.pv dep ⟨b0, b1, b2, b3, b4, b5, b6, b7, kids, o, src⟩ c).1)) := by
 have hcn : Box.cnt ⟨b0, b1, b2, b3, b4, b5, b6, b7, kids, o, src⟩ = 1 + Box.cnts kids := rfl
 rw [hcn] at hc
 have hkl := cnts_len kids
 have hown := pown_a b0 b1 b2 b3 b4 b5 b6 b7 kids o src hn hs (by omega)
 obtain ⟨OB, hOB⟩ : ∃ OB, Box.ownB ⟨b0, b1, b2, b3, b4, b5, b6, b7, kids, o, src⟩ = OB := ⟨_, rfl⟩
 rw [hOB] at hown
 have hR : Box.pv dep ⟨b0, b1, b2, b3, b4, b5, b6, b7, kids, o, src⟩ c = if 20000 < c + 1 ∨ 100 < dep ∨ OB = false then (false, c + 1) else Box.pvs (dep + 1) kids (c + 1) := by simp only [Box.pv, hOB]
 have hwc : IntKind.i64.wrap ((c : Int) + 1) = ((c + 1 : Nat) : Int) := by rw [wrap_i64 (by omega) (by omega)]; simp
 simp only [Box.row] at hown ⊢
 rw [rows_map] at hown ⊢
 refine AX.intro Tryz.func43 rfl ?_
 simp only [Tryz.ntmps43, List.map_cons, List.map_nil, List.length_cons, List.length_nil, Nat.reduceAdd, Nat.reduceSub, List.replicate_succ, List.replicate_zero, List.cons_append, List.nil_append]
 by_cases h1 : 20000 < c + 1
 · rw [if_pos (.inl h1)] at hR
   have h1' : (20000 : Int) < ((c + 1 : Nat) : Int) := by omega
   obtain ⟨C, hC⟩ : ∃ C : Int, ((c + 1 : Nat) : Int) = C := ⟨_, rfl⟩
   rw [hR]
   simp only
   rw [hC] at hwc h1' ⊢
   refine go (cj @hwc <| @h1') ?_
   simp [aRetX, ares, aresL, ares1, V.pub, V.pubs, ldV, toCs, toC, Tryz.results43]
 · have h1' : ¬ (20000 : Int) < ((c + 1 : Nat) : Int) := by omega
   by_cases h2 : 100 < dep
   · rw [if_pos (.inr (.inl h2))] at hR
     have h2' : (100 : Int) < ((dep : Nat) : Int) := by omega
     obtain ⟨C, hC⟩ : ∃ C : Int, ((c + 1 : Nat) : Int) = C := ⟨_, rfl⟩
     rw [hR]
     simp only
     rw [hC] at hwc h1' ⊢
     refine go (cj @hwc <| cj @h1' <| @h2') ?_
     simp [aRetX, ares, aresL, ares1, V.pub, V.pubs, ldV, toCs, toC, Tryz.results43]
   · have h2' : ¬ (100 : Int) < ((dep : Nat) : Int) := by omega
     cases OB with
     | false =>
       rw [if_pos (.inr (.inr rfl))] at hR
       obtain ⟨C, hC⟩ : ∃ C : Int, ((c + 1 : Nat) : Int) = C := ⟨_, rfl⟩
       rw [hR]
       simp only
       rw [hC] at hwc h1' ⊢
       refine go (cj @hwc <| cj @h1' <| @h2') ?_
       refine gc0 (hown) Tryz.func70 ?_
       refine go0 ?_
       simp [aRetX, ares, aresL, ares1, V.pub, V.pubs, ldV, toCs, toC, Tryz.results43]
     | true =>
       rw [if_neg (by rintro (h | h | h) <;> first | omega | cases h)] at hR
       rw [hR]
       have hwd : IntKind.i64.wrap ((dep : Int) + 1) = ((dep + 1 : Nat) : Int) := by rw [wrap_i64 (by omega) (by omega)]; simp
       obtain ⟨Q, hQ⟩ : ∃ Q, Box.pvs (dep + 1) kids (c + 1) = Q := ⟨_, rfl⟩
       rw [hQ]
       obtain ⟨C, hC⟩ : ∃ C : Int, ((c + 1 : Nat) : Int) = C := ⟨_, rfl⟩
       rw [hC] at hwc h1'
       refine go (cj @hwc <| cj @h1' <| @h2') ?_
       refine gc0 (hown) Tryz.func70 ?_
       refine go0 ?_
       subst hC
       refine lp (ι := { k : Nat × Nat // k.1 ≤ kids.length ∧ k.2 + Box.cnts (kids.drop k.1) ≤ 1000000 ∧ Q = Box.pvs (dep + 1) (kids.drop k.1) k.2 }) (fun k => [(31, .c (.int .i64 (k.1.1 : Int))), (6, .c (.bool false))]) (fun k => [.box 3 [.c (.int .i64 (k.1.2 : Int))] false]) (fun k => kids.length - k.1.1) ⟨(0, c + 1), by simp, by simp; omega, by simp [hQ]⟩ ?_ ?_
       all_goals simp only [puts, List.foldl_cons, List.foldl_nil, List.set_cons_zero, List.set_cons_succ]
       · refine Le.weak (by simp [subT])
       · rintro ⟨⟨j, n⟩, hj, hb, hI⟩
         simp only at hj hb hI ⊢
         by_cases hlj : j < kids.length
         · rw [List.drop_eq_getElem_cons hlj] at hI hb
           obtain ⟨k, hkk⟩ : ∃ k, kids[j] = k := ⟨_, rfl⟩
           rw [hkk] at hI hb
           simp only [Box.cnts] at hb
           simp only [Box.pvs] at hI
           have ihk := ih k (hkk ▸ List.getElem_mem hlj) (dep + 1) n (by omega) (by omega)
           have hrl : k.row.length = 11 := by cases k; rfl
           have hpb := (pv_eq (dep + 1) k n).1
           have hw : IntKind.i64.wrap ((j : Int) + 1) = ((j + 1 : Nat) : Int) := by rw [wrap_i64 (by omega) (by omega)]; simp
           obtain ⟨⟨r, n'⟩, hr⟩ : ∃ r, Box.pv (dep + 1) k n = r := ⟨_, rfl⟩
           rw [hr] at ihk hI hpb
           simp only at ihk hI hpb
           obtain ⟨D, hD⟩ : ∃ D : Int, ((dep + 1 : Nat) : Int) = D := ⟨_, rfl⟩
           rw [hD] at ihk hwd
           refine go @hlj ?_
           with_reducible refine AW.regionS ?_
           refine SW.take 9 ?_
           with_reducible refine aops_run (by simp [List.replicate_succ, hlj, hkk, hwd, hrl]; first | exact rfl | exact ⟨rfl, rfl⟩) ?_
           refine aops_done ?_
           simp only [List.drop_succ_cons, List.drop_zero]
           refine SW.callx 0 ihk Tryz.func43 (by kernel_rfl) (by kernel_rfl) (by simp [gate]) (by simp [callOf, hkk, hwd]; first | exact rfl | exact ⟨rfl, rfl⟩) (by simp [V.pub1s, V.pub1, hkk]; try exact rfl) (by rfl) (by simp [toCs, toC]) ?_
           cases r with
           | false =>
             rw [if_neg (by simp)] at hI
             refine SW.take 1 ?_
             with_reducible refine aops_run (by simp [List.replicate_succ]; first | exact rfl | exact ⟨rfl, rfl⟩) ?_
             refine aops_done ?_
             simp only [List.drop_succ_cons, List.drop_zero]
             refine SW.nil ?_
             refine go0 ?_
             simp [aRetX, ares, aresL, ares1, V.pub, V.pubs, ldV, toCs, toC, Tryz.results43, hI]
           | true =>
             rw [if_pos rfl] at hI
             refine SW.take 1 ?_
             with_reducible refine aops_run (by simp [List.replicate_succ]; first | exact rfl | exact ⟨rfl, rfl⟩) ?_
             refine aops_done ?_
             simp only [List.drop_succ_cons, List.drop_zero]
             refine SW.nil ?_
             refine go @hw ?_
             refine ⟨⟨(j + 1, n'), by simp only; omega, by simp only; omega, hI⟩, by simp only; omega, ?_⟩
             refine Le.weak (by simp [subT])
         · rw [List.drop_of_length_le (by omega)] at hI
           simp only [Box.pvs] at hI
           refine go @hlj ?_
           simp [aRetX, ares, aresL, ares1, V.pub, V.pubs, ldV, toCs, toC, Tryz.results43, hI]
theorem okks_at (b0 : Int) (b1 : ByteArray) (b2 b3 b4 b5 b6 b7 : Int) (kids : List Box) (o : Int) (src : List Int) (h : Box.okk ⟨b0, b1, b2, b3, b4, b5, b6, b7, kids, o, src⟩) : b1.size ≤ maxLen ∧ src.length ≤ maxLen ∧ Box.okks kids := by simpa only [Box.okk] using h
theorem pvalid_n : ∀ (n : Nat) (b : Box), SizeOf.sizeOf b < n → b.okk → ∀ (dep c : Nat), dep ≤ 101 → c + b.cnt ≤ 1000000 → AX Tryz.prog 43 [.cp (Box.row b) 0, .c (.int .i64 ((dep : Nat) : Int)), .ptr 0 0] 3 [.int .i64 ((c : Nat) : Int)] [.int .i64 ((Box.pv dep b c).2 : Int)] (.c (.bool (Box.pv dep b c).1))
 | 0, b, h, _ => absurd h (by omega)
 | n + 1, ⟨b0, b1, b2, b3, b4, b5, b6, b7, kids, o, src⟩, hn, hok => by
   obtain ⟨o1, o2, o3⟩ := okks_at b0 b1 b2 b3 b4 b5 b6 b7 kids o src hok
   intro dep c hd hc
   exact pvalid_step b0 b1 b2 b3 b4 b5 b6 b7 kids o src dep c o1 o2 hd hc fun k hk => pvalid_n n k (by
    have := List.sizeOf_lt_of_mem hk
    simp only [Box.mk.sizeOf_spec] at hn
    omega) (okks_mem o3 k hk)
theorem pValid_a (b : Box) (h : b.okk) (hc : b.cnt ≤ 1000000) : AC Tryz.prog 18 [boxV b] (.c (.bool b.validB)) := by
 have h1 := pvalid_n (SizeOf.sizeOf b + 1) b (by omega) h 1 0 (by omega) (by omega)
 rw [← pv_valid]
 obtain ⟨⟨r, n⟩, hr⟩ : ∃ r, Box.pv 1 b 0 = r := ⟨_, rfl⟩
 rw [hr] at h1 ⊢
 simp only at h1 ⊢
 obtain ⟨b0, b1, b2, b3, b4, b5, b6, b7, kids, o, src⟩ := b
 simp only [boxV, Box.row, List.map_cons, List.map_nil] at h1 ⊢
 refine en Tryz.func18 Tryz.ntmps18 ?_
 with_reducible refine AW.seq ?_
 with_reducible refine AW.region ?_
 with_reducible refine aops_run (by simp [List.replicate_succ]; first | exact rfl | exact ⟨rfl, rfl⟩) ?_
 with_reducible refine aops_done ?_
 with_reducible refine aThen_n ?_
 with_reducible refine AW.seq ?_
 with_reducible refine AW.region ?_
 with_reducible refine aops_run (by simp [List.replicate_succ]; first | exact rfl | exact ⟨rfl, rfl⟩) ?_
 with_reducible refine aops_done ?_
 with_reducible refine aThen_n ?_
 refine AW.frz 0 rfl (by simp [toCs, toC]; exact rfl) (by simp [V.frzs, V.frz]; exact rfl) (by simp [O.frz, V.frzs, V.frz]; exact rfl) ?_
 with_reducible refine AW.seq ?_
 with_reducible refine AW.regionS ?_
 refine SW.callx 1 h1 Tryz.func43 (by kernel_rfl) (by kernel_rfl) (by simp [gate]) (by simp [callOf]; first | exact rfl | exact ⟨rfl, rfl⟩) (by simp [V.pub1s, V.pub1]; try exact rfl) (by rfl) (by simp [toCs, toC]) ?_
 refine SW.take 1 ?_
 with_reducible refine aops_run (by simp [List.replicate_succ]; first | exact rfl | exact ⟨rfl, rfl⟩) ?_
 refine aops_done ?_
 simp only [List.drop_succ_cons, List.drop_zero]
 refine SW.nil ?_
 refine go0 ?_
 simp [aRet, ares, aresL, ares1, V.pub, V.pubs, ldV, Tryz.results18]
end Go.Proofs.YthbcljjpmdfflaaGreat
