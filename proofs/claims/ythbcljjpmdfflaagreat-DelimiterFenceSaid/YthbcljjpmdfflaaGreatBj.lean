/-
 Layer 28's program on the abstract machine: own.
-/
import Derived.Test.YthbcljjpmdfflaaGreatBi
namespace Go.Proofs.YthbcljjpmdfflaaGreat
open Go.RowKit
set_option linter.unusedSimpArgs false
set_option linter.unusedVariables false
set_option maxRecDepth 100000
set_option maxHeartbeats 6400000 in
theorem pown_k1 (b1 : ByteArray) (b2 b3 b4 b5 b6 b7 : Int) (kids : List Box) (o : Int) (src : List Int) (hn : b1.size ≤ maxLen) (hs : src.length ≤ maxLen) (hkl : kids.length ≤ 1000000) : AC Tryz.prog 70 [.cp (Box.row ⟨1, b1, b2, b3, b4, b5, b6, b7, kids, o, src⟩) 0] (.c (.bool (Box.ownB ⟨1, b1, b2, b3, b4, b5, b6, b7, kids, o, src⟩))) := by
 have hsrc := psource_a (1) b1 b2 b3 b4 b5 b6 b7 kids o src hs
 obtain ⟨SB, hSB⟩ : ∃ SB, Box.srcB ⟨1, b1, b2, b3, b4, b5, b6, b7, kids, o, src⟩ = SB := ⟨_, rfl⟩
 rw [hSB] at hsrc
 obtain ⟨KB, hKB⟩ : ∃ KB, Box.kindB ⟨1, b1, b2, b3, b4, b5, b6, b7, kids, o, src⟩ = KB := ⟨_, rfl⟩
 obtain ⟨L, hL⟩ : ∃ L, L = [b3, b4, b5, b6, b7] := ⟨_, rfl⟩
 have hLl : L.length = 5 := by rw [hL]; rfl
 have hR : Box.ownB ⟨1, b1, b2, b3, b4, b5, b6, b7, kids, o, src⟩ = (L.all lenValid && (KB && SB)) := by
  simp only [Box.ownB, hSB, hKB, Box.lens, hL]
 have hkb : KB = Box.kindB ⟨1, b1, b2, b3, b4, b5, b6, b7, kids, o, src⟩ := hKB.symm
 rw [hR]
 have hrl : (Box.rows kids).length = kids.length := by rw [rows_map]; simp
 simp only [Box.row] at hsrc ⊢
 refine en Tryz.func70 Tryz.ntmps70 ?_
 refine go0 ?_
 refine lp (ι := { k : Nat // k ≤ 5 ∧ L.all lenValid = (L.drop k).all lenValid }) (fun k => [(25, .agg (L.map fun n => .c (.int .i64 n))), (26, .c (.int .i64 (k.1 : Int))), (2, .c (.bool false))]) (fun _ => []) (fun k => 5 - k.1) ⟨0, by simp⟩ ?_ ?_
 all_goals simp only [puts, List.foldl_cons, List.foldl_nil, List.set_cons_zero, List.set_cons_succ]
 · refine Le.weak (by simp [subT, hL])
 · rintro ⟨i, hi, hA⟩
   by_cases hlt : i < 5
   · have hlt' : i < L.length := by omega
     have hli : (i : Int) < 5 := by omega
     rw [List.drop_eq_getElem_cons hlt', List.all_cons] at hA
     obtain ⟨z, hz⟩ : ∃ z, L[i] = z := ⟨_, rfl⟩
     have hz' : L[i]? = some z := by rw [List.getElem?_eq_getElem hlt', hz]
     rw [hz] at hA
     have hw : IntKind.i64.wrap ((i : Int) + 1) = ((i + 1 : Nat) : Int) := by rw [wrap_i64 (by omega) (by omega)]; simp
     by_cases h1 : z < -1073741824
     · have e : L.all lenValid = false := by rw [hA]; simp [lenValid]; omega
       refine go (cj @hli <| cj @hz' <| @h1) ?_
       simp [aRet, ares, aresL, ares1, V.pub, V.pubs, ldV, Tryz.results70, hR, e]
     · by_cases h2 : 1073741824 < z
       · have e : L.all lenValid = false := by rw [hA]; simp [lenValid]; omega
         refine go (cj @hli <| cj @hz' <| cj @h1 <| @h2) ?_
         simp [aRet, ares, aresL, ares1, V.pub, V.pubs, ldV, Tryz.results70, hR, e]
       · have e : L.all lenValid = (L.drop (i + 1)).all lenValid := by
          have : lenValid z = true := by simp [lenValid]; omega
          rw [hA, this, Bool.true_and]
         refine go (cj @hli <| cj @hz' <| cj @h1 <| cj @h2 <| @hw) ?_
         refine ⟨⟨i + 1, by omega, e⟩, by simp only; omega, ?_⟩
         refine Le.weak (by simp [subT])
   · have hA' : L.all lenValid = true := by rw [hA, List.drop_of_length_le (by omega)]; rfl
     have hli : ¬ (i : Int) < 5 := by omega
     have hA := hA'
     have hnm := bnamed_a b1 hn
     have hkd : KB = (nameB b1 && (decide (1 ≤ b2) && (decide (b2 ≤ 1000) && decide (kids.length = 0)))) := hkb
     cases hnb : nameB b1 with
     | false =>
       rw [hnb] at hnm hkd
       have hK : KB = false := hkd
       refine go @hli ?_
       refine gc0 (hnm) Tryz.func87 ?_
       refine go0 ?_
       simp [aRet, ares, aresL, ares1, V.pub, V.pubs, ldV, Tryz.results70, hR, hK]
     | true =>
       rw [hnb] at hnm hkd
       by_cases s1 : 1 ≤ b2
       · by_cases s2 : b2 ≤ 1000
         · by_cases s3 : kids.length = 0
           · have hK : KB = true := by rw [hkd]; simp [s1, s2]; exact List.eq_nil_of_length_eq_zero (by omega)
             refine go @hli ?_
             refine gc (cj @s1 <| cj @s2 <| cj @s3 <| @hrl) (hnm) Tryz.func87 ?_
             refine gc0 (hsrc) Tryz.func88 ?_
             refine go0 ?_
             simp [aRet, ares, aresL, ares1, V.pub, V.pubs, ldV, Tryz.results70, hR, hK, hA]
           · have hK : KB = false := by rw [hkd]; simp [s1, s2]; intro h; rw [h] at s3; simp at s3
             have s3' : ¬ ((kids.length : Nat) : Int) = 0 := by omega
             refine go @hli ?_
             refine gc (cj @s1 <| cj @s2 <| cj @s3 <| cj @hrl <| @s3') (hnm) Tryz.func87 ?_
             refine go0 ?_
             simp [aRet, ares, aresL, ares1, V.pub, V.pubs, ldV, Tryz.results70, hR, hK]
         · have hK : KB = false := by rw [hkd]; simp [s2]
           refine go @hli ?_
           refine gc (cj @s1 <| @s2) (hnm) Tryz.func87 ?_
           refine go0 ?_
           simp [aRet, ares, aresL, ares1, V.pub, V.pubs, ldV, Tryz.results70, hR, hK]
       · have hK : KB = false := by rw [hkd]; simp [s1]
         refine go @hli ?_
         refine gc @s1 (hnm) Tryz.func87 ?_
         refine go0 ?_
         simp [aRet, ares, aresL, ares1, V.pub, V.pubs, ldV, Tryz.results70, hR, hK]
set_option maxHeartbeats 6400000 in
theorem pown_k2a (b1 : ByteArray) (b2 b3 b4 b5 b6 b7 : Int) (kids : List Box) (o : Int) (src : List Int) (n1 : b1 = ⟨#[]⟩) (s0 : b2 = 0) (s3 : kids.length = 0) (hn : b1.size ≤ maxLen) (hs : src.length ≤ maxLen) (hkl : kids.length ≤ 1000000) : AC Tryz.prog 70 [.cp (Box.row ⟨2, b1, b2, b3, b4, b5, b6, b7, kids, o, src⟩) 0] (.c (.bool (Box.ownB ⟨2, b1, b2, b3, b4, b5, b6, b7, kids, o, src⟩))) := by
 have hsrc := psource_a (2) b1 b2 b3 b4 b5 b6 b7 kids o src hs
 obtain ⟨SB, hSB⟩ : ∃ SB, Box.srcB ⟨2, b1, b2, b3, b4, b5, b6, b7, kids, o, src⟩ = SB := ⟨_, rfl⟩
 rw [hSB] at hsrc
 obtain ⟨KB, hKB⟩ : ∃ KB, Box.kindB ⟨2, b1, b2, b3, b4, b5, b6, b7, kids, o, src⟩ = KB := ⟨_, rfl⟩
 obtain ⟨L, hL⟩ : ∃ L, L = [b3, b4, b5, b6, b7] := ⟨_, rfl⟩
 have hLl : L.length = 5 := by rw [hL]; rfl
 have hR : Box.ownB ⟨2, b1, b2, b3, b4, b5, b6, b7, kids, o, src⟩ = (L.all lenValid && (KB && SB)) := by
  simp only [Box.ownB, hSB, hKB, Box.lens, hL]
 have hkb : KB = Box.kindB ⟨2, b1, b2, b3, b4, b5, b6, b7, kids, o, src⟩ := hKB.symm
 rw [hR]
 have hrl : (Box.rows kids).length = kids.length := by rw [rows_map]; simp
 simp only [Box.row] at hsrc ⊢
 refine en Tryz.func70 Tryz.ntmps70 ?_
 refine go0 ?_
 refine lp (ι := { k : Nat // k ≤ 5 ∧ L.all lenValid = (L.drop k).all lenValid }) (fun k => [(25, .agg (L.map fun n => .c (.int .i64 n))), (26, .c (.int .i64 (k.1 : Int))), (2, .c (.bool false))]) (fun _ => []) (fun k => 5 - k.1) ⟨0, by simp⟩ ?_ ?_
 all_goals simp only [puts, List.foldl_cons, List.foldl_nil, List.set_cons_zero, List.set_cons_succ]
 · refine Le.weak (by simp [subT, hL])
 · rintro ⟨i, hi, hA⟩
   by_cases hlt : i < 5
   · have hlt' : i < L.length := by omega
     have hli : (i : Int) < 5 := by omega
     rw [List.drop_eq_getElem_cons hlt', List.all_cons] at hA
     obtain ⟨z, hz⟩ : ∃ z, L[i] = z := ⟨_, rfl⟩
     have hz' : L[i]? = some z := by rw [List.getElem?_eq_getElem hlt', hz]
     rw [hz] at hA
     have hw : IntKind.i64.wrap ((i : Int) + 1) = ((i + 1 : Nat) : Int) := by rw [wrap_i64 (by omega) (by omega)]; simp
     by_cases h1 : z < -1073741824
     · have e : L.all lenValid = false := by rw [hA]; simp [lenValid]; omega
       refine go (cj @hli <| cj @hz' <| @h1) ?_
       simp [aRet, ares, aresL, ares1, V.pub, V.pubs, ldV, Tryz.results70, hR, e]
     · by_cases h2 : 1073741824 < z
       · have e : L.all lenValid = false := by rw [hA]; simp [lenValid]; omega
         refine go (cj @hli <| cj @hz' <| cj @h1 <| @h2) ?_
         simp [aRet, ares, aresL, ares1, V.pub, V.pubs, ldV, Tryz.results70, hR, e]
       · have e : L.all lenValid = (L.drop (i + 1)).all lenValid := by
          have : lenValid z = true := by simp [lenValid]; omega
          rw [hA, this, Bool.true_and]
         refine go (cj @hli <| cj @hz' <| cj @h1 <| cj @h2 <| @hw) ?_
         refine ⟨⟨i + 1, by omega, e⟩, by simp only; omega, ?_⟩
         refine Le.weak (by simp [subT])
   · have hA' : L.all lenValid = true := by rw [hA, List.drop_of_length_le (by omega)]; rfl
     have hli : ¬ (i : Int) < 5 := by omega
     have hA := hA'
     subst n1 s0
     have hK : KB = true := by rw [hkb]; simp [Box.kindB]; exact List.eq_nil_of_length_eq_zero (by omega)
     refine go (cj @hli <| cj @s3 <| @hrl) ?_
     refine gc0 (hsrc) Tryz.func88 ?_
     refine go0 ?_
     simp [aRet, ares, aresL, ares1, V.pub, V.pubs, ldV, Tryz.results70, hR, hK, hA]
set_option maxHeartbeats 6400000 in
theorem pown_k2b (b1 : ByteArray) (b2 b3 b4 b5 b6 b7 : Int) (kids : List Box) (o : Int) (src : List Int) (n1 : b1 = ⟨#[]⟩) (s0 : b2 = 0) (s3 : ¬ kids.length = 0) (hn : b1.size ≤ maxLen) (hs : src.length ≤ maxLen) (hkl : kids.length ≤ 1000000) : AC Tryz.prog 70 [.cp (Box.row ⟨2, b1, b2, b3, b4, b5, b6, b7, kids, o, src⟩) 0] (.c (.bool (Box.ownB ⟨2, b1, b2, b3, b4, b5, b6, b7, kids, o, src⟩))) := by
 have hsrc := psource_a (2) b1 b2 b3 b4 b5 b6 b7 kids o src hs
 obtain ⟨SB, hSB⟩ : ∃ SB, Box.srcB ⟨2, b1, b2, b3, b4, b5, b6, b7, kids, o, src⟩ = SB := ⟨_, rfl⟩
 rw [hSB] at hsrc
 obtain ⟨KB, hKB⟩ : ∃ KB, Box.kindB ⟨2, b1, b2, b3, b4, b5, b6, b7, kids, o, src⟩ = KB := ⟨_, rfl⟩
 obtain ⟨L, hL⟩ : ∃ L, L = [b3, b4, b5, b6, b7] := ⟨_, rfl⟩
 have hLl : L.length = 5 := by rw [hL]; rfl
 have hR : Box.ownB ⟨2, b1, b2, b3, b4, b5, b6, b7, kids, o, src⟩ = (L.all lenValid && (KB && SB)) := by
  simp only [Box.ownB, hSB, hKB, Box.lens, hL]
 have hkb : KB = Box.kindB ⟨2, b1, b2, b3, b4, b5, b6, b7, kids, o, src⟩ := hKB.symm
 rw [hR]
 have hrl : (Box.rows kids).length = kids.length := by rw [rows_map]; simp
 simp only [Box.row] at hsrc ⊢
 refine en Tryz.func70 Tryz.ntmps70 ?_
 refine go0 ?_
 refine lp (ι := { k : Nat // k ≤ 5 ∧ L.all lenValid = (L.drop k).all lenValid }) (fun k => [(25, .agg (L.map fun n => .c (.int .i64 n))), (26, .c (.int .i64 (k.1 : Int))), (2, .c (.bool false))]) (fun _ => []) (fun k => 5 - k.1) ⟨0, by simp⟩ ?_ ?_
 all_goals simp only [puts, List.foldl_cons, List.foldl_nil, List.set_cons_zero, List.set_cons_succ]
 · refine Le.weak (by simp [subT, hL])
 · rintro ⟨i, hi, hA⟩
   by_cases hlt : i < 5
   · have hlt' : i < L.length := by omega
     have hli : (i : Int) < 5 := by omega
     rw [List.drop_eq_getElem_cons hlt', List.all_cons] at hA
     obtain ⟨z, hz⟩ : ∃ z, L[i] = z := ⟨_, rfl⟩
     have hz' : L[i]? = some z := by rw [List.getElem?_eq_getElem hlt', hz]
     rw [hz] at hA
     have hw : IntKind.i64.wrap ((i : Int) + 1) = ((i + 1 : Nat) : Int) := by rw [wrap_i64 (by omega) (by omega)]; simp
     by_cases h1 : z < -1073741824
     · have e : L.all lenValid = false := by rw [hA]; simp [lenValid]; omega
       refine go (cj @hli <| cj @hz' <| @h1) ?_
       simp [aRet, ares, aresL, ares1, V.pub, V.pubs, ldV, Tryz.results70, hR, e]
     · by_cases h2 : 1073741824 < z
       · have e : L.all lenValid = false := by rw [hA]; simp [lenValid]; omega
         refine go (cj @hli <| cj @hz' <| cj @h1 <| @h2) ?_
         simp [aRet, ares, aresL, ares1, V.pub, V.pubs, ldV, Tryz.results70, hR, e]
       · have e : L.all lenValid = (L.drop (i + 1)).all lenValid := by
          have : lenValid z = true := by simp [lenValid]; omega
          rw [hA, this, Bool.true_and]
         refine go (cj @hli <| cj @hz' <| cj @h1 <| cj @h2 <| @hw) ?_
         refine ⟨⟨i + 1, by omega, e⟩, by simp only; omega, ?_⟩
         refine Le.weak (by simp [subT])
   · have hA' : L.all lenValid = true := by rw [hA, List.drop_of_length_le (by omega)]; rfl
     have hli : ¬ (i : Int) < 5 := by omega
     have hA := hA'
     subst n1 s0
     have hK : KB = false := by rw [hkb]; simp [Box.kindB]; intro h; rw [h] at s3; simp at s3
     have s3' : ¬ ((kids.length : Nat) : Int) = 0 := by omega
     refine go (cj @hli <| cj @s3 <| cj @hrl <| @s3') ?_
     simp [aRet, ares, aresL, ares1, V.pub, V.pubs, ldV, Tryz.results70, hR, hK]
set_option maxHeartbeats 6400000 in
theorem pown_k2c (b1 : ByteArray) (b2 b3 b4 b5 b6 b7 : Int) (kids : List Box) (o : Int) (src : List Int) (n1 : b1 = ⟨#[]⟩) (s0 : ¬ b2 = 0) (hn : b1.size ≤ maxLen) (hs : src.length ≤ maxLen) (hkl : kids.length ≤ 1000000) : AC Tryz.prog 70 [.cp (Box.row ⟨2, b1, b2, b3, b4, b5, b6, b7, kids, o, src⟩) 0] (.c (.bool (Box.ownB ⟨2, b1, b2, b3, b4, b5, b6, b7, kids, o, src⟩))) := by
 have hsrc := psource_a (2) b1 b2 b3 b4 b5 b6 b7 kids o src hs
 obtain ⟨SB, hSB⟩ : ∃ SB, Box.srcB ⟨2, b1, b2, b3, b4, b5, b6, b7, kids, o, src⟩ = SB := ⟨_, rfl⟩
 rw [hSB] at hsrc
 obtain ⟨KB, hKB⟩ : ∃ KB, Box.kindB ⟨2, b1, b2, b3, b4, b5, b6, b7, kids, o, src⟩ = KB := ⟨_, rfl⟩
 obtain ⟨L, hL⟩ : ∃ L, L = [b3, b4, b5, b6, b7] := ⟨_, rfl⟩
 have hLl : L.length = 5 := by rw [hL]; rfl
 have hR : Box.ownB ⟨2, b1, b2, b3, b4, b5, b6, b7, kids, o, src⟩ = (L.all lenValid && (KB && SB)) := by
  simp only [Box.ownB, hSB, hKB, Box.lens, hL]
 have hkb : KB = Box.kindB ⟨2, b1, b2, b3, b4, b5, b6, b7, kids, o, src⟩ := hKB.symm
 rw [hR]
 have hrl : (Box.rows kids).length = kids.length := by rw [rows_map]; simp
 simp only [Box.row] at hsrc ⊢
 refine en Tryz.func70 Tryz.ntmps70 ?_
 refine go0 ?_
 refine lp (ι := { k : Nat // k ≤ 5 ∧ L.all lenValid = (L.drop k).all lenValid }) (fun k => [(25, .agg (L.map fun n => .c (.int .i64 n))), (26, .c (.int .i64 (k.1 : Int))), (2, .c (.bool false))]) (fun _ => []) (fun k => 5 - k.1) ⟨0, by simp⟩ ?_ ?_
 all_goals simp only [puts, List.foldl_cons, List.foldl_nil, List.set_cons_zero, List.set_cons_succ]
 · refine Le.weak (by simp [subT, hL])
 · rintro ⟨i, hi, hA⟩
   by_cases hlt : i < 5
   · have hlt' : i < L.length := by omega
     have hli : (i : Int) < 5 := by omega
     rw [List.drop_eq_getElem_cons hlt', List.all_cons] at hA
     obtain ⟨z, hz⟩ : ∃ z, L[i] = z := ⟨_, rfl⟩
     have hz' : L[i]? = some z := by rw [List.getElem?_eq_getElem hlt', hz]
     rw [hz] at hA
     have hw : IntKind.i64.wrap ((i : Int) + 1) = ((i + 1 : Nat) : Int) := by rw [wrap_i64 (by omega) (by omega)]; simp
     by_cases h1 : z < -1073741824
     · have e : L.all lenValid = false := by rw [hA]; simp [lenValid]; omega
       refine go (cj @hli <| cj @hz' <| @h1) ?_
       simp [aRet, ares, aresL, ares1, V.pub, V.pubs, ldV, Tryz.results70, hR, e]
     · by_cases h2 : 1073741824 < z
       · have e : L.all lenValid = false := by rw [hA]; simp [lenValid]; omega
         refine go (cj @hli <| cj @hz' <| cj @h1 <| @h2) ?_
         simp [aRet, ares, aresL, ares1, V.pub, V.pubs, ldV, Tryz.results70, hR, e]
       · have e : L.all lenValid = (L.drop (i + 1)).all lenValid := by
          have : lenValid z = true := by simp [lenValid]; omega
          rw [hA, this, Bool.true_and]
         refine go (cj @hli <| cj @hz' <| cj @h1 <| cj @h2 <| @hw) ?_
         refine ⟨⟨i + 1, by omega, e⟩, by simp only; omega, ?_⟩
         refine Le.weak (by simp [subT])
   · have hA' : L.all lenValid = true := by rw [hA, List.drop_of_length_le (by omega)]; rfl
     have hli : ¬ (i : Int) < 5 := by omega
     have hA := hA'
     have hK : KB = false := by rw [hkb]; simp [Box.kindB, s0]
     subst n1
     refine go (cj @hli <| @s0) ?_
     simp [aRet, ares, aresL, ares1, V.pub, V.pubs, ldV, Tryz.results70, hR, hK]
set_option maxHeartbeats 6400000 in
theorem pown_k2d (b1 : ByteArray) (b2 b3 b4 b5 b6 b7 : Int) (kids : List Box) (o : Int) (src : List Int) (n1 : ¬ b1 = ⟨#[]⟩) (hn : b1.size ≤ maxLen) (hs : src.length ≤ maxLen) (hkl : kids.length ≤ 1000000) : AC Tryz.prog 70 [.cp (Box.row ⟨2, b1, b2, b3, b4, b5, b6, b7, kids, o, src⟩) 0] (.c (.bool (Box.ownB ⟨2, b1, b2, b3, b4, b5, b6, b7, kids, o, src⟩))) := by
 have hsrc := psource_a (2) b1 b2 b3 b4 b5 b6 b7 kids o src hs
 obtain ⟨SB, hSB⟩ : ∃ SB, Box.srcB ⟨2, b1, b2, b3, b4, b5, b6, b7, kids, o, src⟩ = SB := ⟨_, rfl⟩
 rw [hSB] at hsrc
 obtain ⟨KB, hKB⟩ : ∃ KB, Box.kindB ⟨2, b1, b2, b3, b4, b5, b6, b7, kids, o, src⟩ = KB := ⟨_, rfl⟩
 obtain ⟨L, hL⟩ : ∃ L, L = [b3, b4, b5, b6, b7] := ⟨_, rfl⟩
 have hLl : L.length = 5 := by rw [hL]; rfl
 have hR : Box.ownB ⟨2, b1, b2, b3, b4, b5, b6, b7, kids, o, src⟩ = (L.all lenValid && (KB && SB)) := by
  simp only [Box.ownB, hSB, hKB, Box.lens, hL]
 have hkb : KB = Box.kindB ⟨2, b1, b2, b3, b4, b5, b6, b7, kids, o, src⟩ := hKB.symm
 rw [hR]
 have hrl : (Box.rows kids).length = kids.length := by rw [rows_map]; simp
 simp only [Box.row] at hsrc ⊢
 refine en Tryz.func70 Tryz.ntmps70 ?_
 refine go0 ?_
 refine lp (ι := { k : Nat // k ≤ 5 ∧ L.all lenValid = (L.drop k).all lenValid }) (fun k => [(25, .agg (L.map fun n => .c (.int .i64 n))), (26, .c (.int .i64 (k.1 : Int))), (2, .c (.bool false))]) (fun _ => []) (fun k => 5 - k.1) ⟨0, by simp⟩ ?_ ?_
 all_goals simp only [puts, List.foldl_cons, List.foldl_nil, List.set_cons_zero, List.set_cons_succ]
 · refine Le.weak (by simp [subT, hL])
 · rintro ⟨i, hi, hA⟩
   by_cases hlt : i < 5
   · have hlt' : i < L.length := by omega
     have hli : (i : Int) < 5 := by omega
     rw [List.drop_eq_getElem_cons hlt', List.all_cons] at hA
     obtain ⟨z, hz⟩ : ∃ z, L[i] = z := ⟨_, rfl⟩
     have hz' : L[i]? = some z := by rw [List.getElem?_eq_getElem hlt', hz]
     rw [hz] at hA
     have hw : IntKind.i64.wrap ((i : Int) + 1) = ((i + 1 : Nat) : Int) := by rw [wrap_i64 (by omega) (by omega)]; simp
     by_cases h1 : z < -1073741824
     · have e : L.all lenValid = false := by rw [hA]; simp [lenValid]; omega
       refine go (cj @hli <| cj @hz' <| @h1) ?_
       simp [aRet, ares, aresL, ares1, V.pub, V.pubs, ldV, Tryz.results70, hR, e]
     · by_cases h2 : 1073741824 < z
       · have e : L.all lenValid = false := by rw [hA]; simp [lenValid]; omega
         refine go (cj @hli <| cj @hz' <| cj @h1 <| @h2) ?_
         simp [aRet, ares, aresL, ares1, V.pub, V.pubs, ldV, Tryz.results70, hR, e]
       · have e : L.all lenValid = (L.drop (i + 1)).all lenValid := by
          have : lenValid z = true := by simp [lenValid]; omega
          rw [hA, this, Bool.true_and]
         refine go (cj @hli <| cj @hz' <| cj @h1 <| cj @h2 <| @hw) ?_
         refine ⟨⟨i + 1, by omega, e⟩, by simp only; omega, ?_⟩
         refine Le.weak (by simp [subT])
   · have hA' : L.all lenValid = true := by rw [hA, List.drop_of_length_le (by omega)]; rfl
     have hli : ¬ (i : Int) < 5 := by omega
     have hA := hA'
     have hK : KB = false := by rw [hkb]; simp [Box.kindB, n1]
     refine go (cj @hli <| @n1) ?_
     simp [aRet, ares, aresL, ares1, V.pub, V.pubs, ldV, Tryz.results70, hR, hK]
set_option maxHeartbeats 6400000 in
theorem pown_k3 (b1 : ByteArray) (b2 b3 b4 b5 b6 b7 : Int) (kids : List Box) (o : Int) (src : List Int) (hn : b1.size ≤ maxLen) (hs : src.length ≤ maxLen) (hkl : kids.length ≤ 1000000) : AC Tryz.prog 70 [.cp (Box.row ⟨3, b1, b2, b3, b4, b5, b6, b7, kids, o, src⟩) 0] (.c (.bool (Box.ownB ⟨3, b1, b2, b3, b4, b5, b6, b7, kids, o, src⟩))) := by
 have hsrc := psource_a (3) b1 b2 b3 b4 b5 b6 b7 kids o src hs
 obtain ⟨SB, hSB⟩ : ∃ SB, Box.srcB ⟨3, b1, b2, b3, b4, b5, b6, b7, kids, o, src⟩ = SB := ⟨_, rfl⟩
 rw [hSB] at hsrc
 obtain ⟨KB, hKB⟩ : ∃ KB, Box.kindB ⟨3, b1, b2, b3, b4, b5, b6, b7, kids, o, src⟩ = KB := ⟨_, rfl⟩
 obtain ⟨L, hL⟩ : ∃ L, L = [b3, b4, b5, b6, b7] := ⟨_, rfl⟩
 have hLl : L.length = 5 := by rw [hL]; rfl
 have hR : Box.ownB ⟨3, b1, b2, b3, b4, b5, b6, b7, kids, o, src⟩ = (L.all lenValid && (KB && SB)) := by
  simp only [Box.ownB, hSB, hKB, Box.lens, hL]
 have hkb : KB = Box.kindB ⟨3, b1, b2, b3, b4, b5, b6, b7, kids, o, src⟩ := hKB.symm
 rw [hR]
 have hrl : (Box.rows kids).length = kids.length := by rw [rows_map]; simp
 simp only [Box.row] at hsrc ⊢
 refine en Tryz.func70 Tryz.ntmps70 ?_
 refine go0 ?_
 refine lp (ι := { k : Nat // k ≤ 5 ∧ L.all lenValid = (L.drop k).all lenValid }) (fun k => [(25, .agg (L.map fun n => .c (.int .i64 n))), (26, .c (.int .i64 (k.1 : Int))), (2, .c (.bool false))]) (fun _ => []) (fun k => 5 - k.1) ⟨0, by simp⟩ ?_ ?_
 all_goals simp only [puts, List.foldl_cons, List.foldl_nil, List.set_cons_zero, List.set_cons_succ]
 · refine Le.weak (by simp [subT, hL])
 · rintro ⟨i, hi, hA⟩
   by_cases hlt : i < 5
   · have hlt' : i < L.length := by omega
     have hli : (i : Int) < 5 := by omega
     rw [List.drop_eq_getElem_cons hlt', List.all_cons] at hA
     obtain ⟨z, hz⟩ : ∃ z, L[i] = z := ⟨_, rfl⟩
     have hz' : L[i]? = some z := by rw [List.getElem?_eq_getElem hlt', hz]
     rw [hz] at hA
     have hw : IntKind.i64.wrap ((i : Int) + 1) = ((i + 1 : Nat) : Int) := by rw [wrap_i64 (by omega) (by omega)]; simp
     by_cases h1 : z < -1073741824
     · have e : L.all lenValid = false := by rw [hA]; simp [lenValid]; omega
       refine go (cj @hli <| cj @hz' <| @h1) ?_
       simp [aRet, ares, aresL, ares1, V.pub, V.pubs, ldV, Tryz.results70, hR, e]
     · by_cases h2 : 1073741824 < z
       · have e : L.all lenValid = false := by rw [hA]; simp [lenValid]; omega
         refine go (cj @hli <| cj @hz' <| cj @h1 <| @h2) ?_
         simp [aRet, ares, aresL, ares1, V.pub, V.pubs, ldV, Tryz.results70, hR, e]
       · have e : L.all lenValid = (L.drop (i + 1)).all lenValid := by
          have : lenValid z = true := by simp [lenValid]; omega
          rw [hA, this, Bool.true_and]
         refine go (cj @hli <| cj @hz' <| cj @h1 <| cj @h2 <| @hw) ?_
         refine ⟨⟨i + 1, by omega, e⟩, by simp only; omega, ?_⟩
         refine Le.weak (by simp [subT])
   · have hA' : L.all lenValid = true := by rw [hA, List.drop_of_length_le (by omega)]; rfl
     have hli : ¬ (i : Int) < 5 := by omega
     have hA := hA'
     by_cases n1 : b1 = ⟨#[]⟩
     · by_cases s0 : b2 = 0
       · subst n1 s0
         have hK : KB = true := by rw [hkb]; simp [Box.kindB]
         refine go @hli ?_
         refine gc0 (hsrc) Tryz.func88 ?_
         refine go0 ?_
         simp [aRet, ares, aresL, ares1, V.pub, V.pubs, ldV, Tryz.results70, hR, hK, hA]
       · have hK : KB = false := by rw [hkb]; simp [Box.kindB, s0]
         subst n1
         refine go (cj @hli <| @s0) ?_
         simp [aRet, ares, aresL, ares1, V.pub, V.pubs, ldV, Tryz.results70, hR, hK]
     · have hK : KB = false := by rw [hkb]; simp [Box.kindB, n1]
       refine go (cj @hli <| @n1) ?_
       simp [aRet, ares, aresL, ares1, V.pub, V.pubs, ldV, Tryz.results70, hR, hK]
set_option maxHeartbeats 6400000 in
theorem pown_kx (b0 : Int) (b1 : ByteArray) (b2 b3 b4 b5 b6 b7 : Int) (kids : List Box) (o : Int) (src : List Int) (k1 : ¬ b0 = 1) (k2 : ¬ b0 = 2) (k3 : ¬ b0 = 3) (hn : b1.size ≤ maxLen) (hs : src.length ≤ maxLen) (hkl : kids.length ≤ 1000000) : AC Tryz.prog 70 [.cp (Box.row ⟨b0, b1, b2, b3, b4, b5, b6, b7, kids, o, src⟩) 0] (.c (.bool (Box.ownB ⟨b0, b1, b2, b3, b4, b5, b6, b7, kids, o, src⟩))) := by
 have hsrc := psource_a b0 b1 b2 b3 b4 b5 b6 b7 kids o src hs
 obtain ⟨SB, hSB⟩ : ∃ SB, Box.srcB ⟨b0, b1, b2, b3, b4, b5, b6, b7, kids, o, src⟩ = SB := ⟨_, rfl⟩
 rw [hSB] at hsrc
 obtain ⟨KB, hKB⟩ : ∃ KB, Box.kindB ⟨b0, b1, b2, b3, b4, b5, b6, b7, kids, o, src⟩ = KB := ⟨_, rfl⟩
 obtain ⟨L, hL⟩ : ∃ L, L = [b3, b4, b5, b6, b7] := ⟨_, rfl⟩
 have hLl : L.length = 5 := by rw [hL]; rfl
 have hR : Box.ownB ⟨b0, b1, b2, b3, b4, b5, b6, b7, kids, o, src⟩ = (L.all lenValid && (KB && SB)) := by
  simp only [Box.ownB, hSB, hKB, Box.lens, hL]
 have hkb : KB = Box.kindB ⟨b0, b1, b2, b3, b4, b5, b6, b7, kids, o, src⟩ := hKB.symm
 rw [hR]
 have hrl : (Box.rows kids).length = kids.length := by rw [rows_map]; simp
 simp only [Box.row] at hsrc ⊢
 refine en Tryz.func70 Tryz.ntmps70 ?_
 refine go0 ?_
 refine lp (ι := { k : Nat // k ≤ 5 ∧ L.all lenValid = (L.drop k).all lenValid }) (fun k => [(25, .agg (L.map fun n => .c (.int .i64 n))), (26, .c (.int .i64 (k.1 : Int))), (2, .c (.bool false))]) (fun _ => []) (fun k => 5 - k.1) ⟨0, by simp⟩ ?_ ?_
 all_goals simp only [puts, List.foldl_cons, List.foldl_nil, List.set_cons_zero, List.set_cons_succ]
 · refine Le.weak (by simp [subT, hL])
 · rintro ⟨i, hi, hA⟩
   by_cases hlt : i < 5
   · have hlt' : i < L.length := by omega
     have hli : (i : Int) < 5 := by omega
     rw [List.drop_eq_getElem_cons hlt', List.all_cons] at hA
     obtain ⟨z, hz⟩ : ∃ z, L[i] = z := ⟨_, rfl⟩
     have hz' : L[i]? = some z := by rw [List.getElem?_eq_getElem hlt', hz]
     rw [hz] at hA
     have hw : IntKind.i64.wrap ((i : Int) + 1) = ((i + 1 : Nat) : Int) := by rw [wrap_i64 (by omega) (by omega)]; simp
     by_cases h1 : z < -1073741824
     · have e : L.all lenValid = false := by rw [hA]; simp [lenValid]; omega
       refine go (cj @hli <| cj @hz' <| @h1) ?_
       simp [aRet, ares, aresL, ares1, V.pub, V.pubs, ldV, Tryz.results70, hR, e]
     · by_cases h2 : 1073741824 < z
       · have e : L.all lenValid = false := by rw [hA]; simp [lenValid]; omega
         refine go (cj @hli <| cj @hz' <| cj @h1 <| @h2) ?_
         simp [aRet, ares, aresL, ares1, V.pub, V.pubs, ldV, Tryz.results70, hR, e]
       · have e : L.all lenValid = (L.drop (i + 1)).all lenValid := by
          have : lenValid z = true := by simp [lenValid]; omega
          rw [hA, this, Bool.true_and]
         refine go (cj @hli <| cj @hz' <| cj @h1 <| cj @h2 <| @hw) ?_
         refine ⟨⟨i + 1, by omega, e⟩, by simp only; omega, ?_⟩
         refine Le.weak (by simp [subT])
   · have hA' : L.all lenValid = true := by rw [hA, List.drop_of_length_le (by omega)]; rfl
     have hli : ¬ (i : Int) < 5 := by omega
     have hA := hA'
     have hK : KB = false := by rw [hkb]; simp [Box.kindB, k1, k2, k3]
     refine go (cj @hli <| cj @k1 <| cj @k2 <| @k3) ?_
     simp [aRet, ares, aresL, ares1, V.pub, V.pubs, ldV, Tryz.results70, hR, hK]
theorem pown_a (b0 : Int) (b1 : ByteArray) (b2 b3 b4 b5 b6 b7 : Int) (kids : List Box) (o : Int) (src : List Int) (hn : b1.size ≤ maxLen) (hs : src.length ≤ maxLen) (hkl : kids.length ≤ 1000000) : AC Tryz.prog 70 [.cp (Box.row ⟨b0, b1, b2, b3, b4, b5, b6, b7, kids, o, src⟩) 0] (.c (.bool (Box.ownB ⟨b0, b1, b2, b3, b4, b5, b6, b7, kids, o, src⟩))) := by
 by_cases k1 : b0 = 1
 · subst k1; exact pown_k1 b1 b2 b3 b4 b5 b6 b7 kids o src hn hs hkl
 · by_cases k2 : b0 = 2
   · subst k2
     by_cases n1 : b1 = ⟨#[]⟩
     · by_cases s0 : b2 = 0
       · by_cases s3 : kids.length = 0
         · exact pown_k2a b1 b2 b3 b4 b5 b6 b7 kids o src n1 s0 s3 hn hs hkl
         · exact pown_k2b b1 b2 b3 b4 b5 b6 b7 kids o src n1 s0 s3 hn hs hkl
       · exact pown_k2c b1 b2 b3 b4 b5 b6 b7 kids o src n1 s0 hn hs hkl
     · exact pown_k2d b1 b2 b3 b4 b5 b6 b7 kids o src n1 hn hs hkl
   · by_cases k3 : b0 = 3
     · subst k3; exact pown_k3 b1 b2 b3 b4 b5 b6 b7 kids o src hn hs hkl
     · exact pown_kx b0 b1 b2 b3 b4 b5 b6 b7 kids o src k1 k2 k3 hn hs hkl
end Go.Proofs.YthbcljjpmdfflaaGreat
