/-
 Layer 28's reference on the abstract machine: proper, Valid.
-/
import Derived.Test.YthbcljjpmdfflaaGreatGC
namespace Go.Proofs.YthbcljjpmdfflaaGreat
open Go.RowKit
set_option linter.unusedSimpArgs false
set_option linter.unusedVariables false
set_option maxRecDepth 100000
mutual
def Box.okk : Box → Prop
 | ⟨_, n, _, _, _, _, _, _, kids, _, src⟩ => n.size ≤ maxLen ∧ src.length ≤ maxLen ∧ Box.okks kids
def Box.okks : List Box → Prop
 | [] => True
 | b :: l => b.okk ∧ Box.okks l
end
theorem okks_mem : ∀ {l : List Box}, Box.okks l → ∀ b ∈ l, b.okk
 | [], _, b, h => by cases h
 | x :: l, hl, b, h => by
   simp only [Box.okks] at hl
   rcases List.mem_cons.1 h with rfl | h
   · exact hl.1
   · exact okks_mem hl.2 b h
theorem str_ne' {a : ByteArray} (h : ¬ a = ⟨#[]⟩) : ¬ a = { data := #[] } := h
set_option maxHeartbeats 6400000 in
theorem rproper_k1 (b1 : ByteArray) (b2 b3 b4 b5 b6 b7 : Int) (kids : List Box) (o : Int) (src : List Int) (hn : b1.size ≤ maxLen) (hs : src.length ≤ maxLen) (hkl : kids.length ≤ 1000000) (ih : ∀ c ∈ kids, AC Tryz.prog 35 [boxV c] (.c (.bool c.propB))) : AC Tryz.prog 35 [boxV ⟨1, b1, b2, b3, b4, b5, b6, b7, kids, o, src⟩] (.c (.bool (Box.propB ⟨1, b1, b2, b3, b4, b5, b6, b7, kids, o, src⟩))) := by
 have hsrc := rsource_a (1) b1 b2 b3 b4 b5 b6 b7 kids o src hs
 obtain ⟨SB, hSB⟩ : ∃ SB, Box.srcB ⟨1, b1, b2, b3, b4, b5, b6, b7, kids, o, src⟩ = SB := ⟨_, rfl⟩
 rw [hSB] at hsrc
 obtain ⟨KB, hKB⟩ : ∃ KB, Box.kindB ⟨1, b1, b2, b3, b4, b5, b6, b7, kids, o, src⟩ = KB := ⟨_, rfl⟩
 obtain ⟨L, hL⟩ : ∃ L, L = [b3, b4, b5, b6, b7] := ⟨_, rfl⟩
 have hLl : L.length = 5 := by rw [hL]; rfl
 have hR : Box.propB ⟨1, b1, b2, b3, b4, b5, b6, b7, kids, o, src⟩ = (L.all lenValid && (KB && SB) && Box.propsB kids) := by
  simp only [Box.propB, Box.ownB, hSB, hKB, Box.lens, hL]
 have hkb : KB = Box.kindB ⟨1, b1, b2, b3, b4, b5, b6, b7, kids, o, src⟩ := hKB.symm
 rw [hR]
 simp only [boxV, Box.row, List.map_cons, List.map_nil] at hsrc
 rw [rows_map] at hsrc
 simp only [boxV, Box.row, List.map_cons, List.map_nil]
 rw [rows_map]
 obtain ⟨BC, hBC⟩ : ∃ BC, BC = ([.c (.int .i64 1), .c (.str b1), .c (.int .i64 b2), .c (.int .i64 b3), .c (.int .i64 b4), .c (.int .i64 b5), .c (.int .i64 b6), .c (.int .i64 b7), .c (.sl (kids.map Box.row)), .c (.int .i64 o), .c (intsC src)] : List V) := ⟨_, rfl⟩
 refine en Tryz.func35 Tryz.ntmps35 ?_
 refine go0 ?_
 refine lp (ι := { k : Nat // k ≤ 5 ∧ L.all lenValid = (L.drop k).all lenValid }) (fun k => [(3, .full (L.map fun n => [.int .i64 n])), (4, .c (.int .i64 (k.1 : Int))), (2, .c (.bool false))]) (fun _ => [.box 33 BC false]) (fun k => 5 - k.1) ⟨0, by simp⟩ ?_ ?_
 all_goals simp only [puts, List.foldl_cons, List.foldl_nil, List.set_cons_zero, List.set_cons_succ]
 · refine Le.wdrop 1 (Nat.le_of_ble_eq_true rfl) (by simp [subT, hBC, intsC, hL]) (by simp [hBC, intsC, hL]) (by simp [V.bnds, V.bnd]) (by simp [O.bnd, V.bnds, V.bnd, hBC, intsC, hL])
 · rintro ⟨i, hi, hA⟩
   by_cases hlt : i < 5
   · have hlt' : i < L.length := by omega
     have hli : (i : Int) < 5 := by omega
     rw [List.drop_eq_getElem_cons hlt', List.all_cons] at hA
     obtain ⟨z, hz⟩ : ∃ z, L[i] = z := ⟨_, rfl⟩
     rw [hz] at hA
     have hw : IntKind.i64.wrap ((i : Int) + 1) = ((i + 1 : Nat) : Int) := by rw [wrap_i64 (by omega) (by omega)]; simp
     by_cases h1 : z < -1073741824
     · have e : L.all lenValid = false := by rw [hA]; simp [lenValid]; omega
       refine go (cj @hBC <| cj @hLl <| cj @hlt <| cj @hli <| cj @hlt' <| cj @hz <| @h1) ?_
       simp [aRet, ares, aresL, ares1, V.pub, V.pubs, ldV, Tryz.results35, hR, e]
     · by_cases h2 : 1073741824 < z
       · have e : L.all lenValid = false := by rw [hA]; simp [lenValid]; omega
         refine go (cj @hBC <| cj @hLl <| cj @hlt <| cj @hli <| cj @hlt' <| cj @hz <| cj @h1 <| @h2) ?_
         simp [aRet, ares, aresL, ares1, V.pub, V.pubs, ldV, Tryz.results35, hR, e]
       · have e : L.all lenValid = (L.drop (i + 1)).all lenValid := by
          have : lenValid z = true := by simp [lenValid]; omega
          rw [hA, this, Bool.true_and]
         refine go (cj @hBC <| cj @hLl <| cj @hlt <| cj @hli <| cj @hlt' <| cj @hz <| cj @h1 <| cj @h2 <| @hw) ?_
         refine ⟨⟨i + 1, by omega, e⟩, by simp only; omega, ?_⟩
         refine Le.wdrop 1 (Nat.le_of_ble_eq_true rfl) (by simp [subT, hBC, intsC]) (by simp [hBC, intsC]) (by simp [V.bnds, V.bnd]) (by simp [O.bnd, V.bnds, V.bnd, hBC, intsC])
   · have hA' : L.all lenValid = true := by rw [hA, List.drop_of_length_le (by omega)]; rfl
     have hli : ¬ (i : Int) < 5 := by omega
     have hA := hA'
     have hnm := name_a b1 hn
     have hkd : KB = (nameB b1 && (decide (1 ≤ b2) && (decide (b2 ≤ 1000) && decide (kids.length = 0)))) := hkb
     cases hnb : nameB b1 with
     | false =>
       rw [hnb] at hnm hkd
       have hK : KB = false := hkd
       refine go (cj @hBC <| cj @hLl <| @hli) ?_
       refine gc0 (hnm) Tryz.func55 ?_
       refine go0 ?_
       simp [aRet, ares, aresL, ares1, V.pub, V.pubs, ldV, Tryz.results35, hR, hK]
     | true =>
       rw [hnb] at hnm hkd
       by_cases s1 : b2 < 1
       · have hK : KB = false := by rw [hkd]; simp; omega
         refine go (cj @hBC <| cj @hLl <| @hli) ?_
         refine gc (cj @hBC <| @s1) (hnm) Tryz.func55 ?_
         refine go0 ?_
         simp [aRet, ares, aresL, ares1, V.pub, V.pubs, ldV, Tryz.results35, hR, hK]
       · by_cases s2 : 1000 < b2
         · have hK : KB = false := by rw [hkd]; simp; omega
           refine go (cj @hBC <| cj @hLl <| @hli) ?_
           refine gc (cj @hBC <| cj @s1 <| @s2) (hnm) Tryz.func55 ?_
           refine go0 ?_
           simp [aRet, ares, aresL, ares1, V.pub, V.pubs, ldV, Tryz.results35, hR, hK]
         · by_cases s3 : 0 < kids.length
           · have hK : KB = false := by rw [hkd]; simp; intro _ _ h; rw [h] at s3; simp at s3
             refine go (cj @hBC <| cj @hLl <| @hli) ?_
             refine gc (cj @hBC <| cj @s1 <| cj @s2 <| @s3) (hnm) Tryz.func55 ?_
             refine go0 ?_
             simp [aRet, ares, aresL, ares1, V.pub, V.pubs, ldV, Tryz.results35, hR, hK]
           · have hK : KB = true := by rw [hkd]; simp; exact ⟨by omega, by omega, List.eq_nil_of_length_eq_zero (by omega)⟩
             refine go (cj @hBC <| cj @hLl <| @hli) ?_
             refine gc (cj @hBC <| cj @s1 <| cj @s2 <| @s3) (hnm) Tryz.func55 ?_
             refine go (cj @hBC <| @intsC.eq_1) ?_
             refine lp (ι := { k : Nat // k ≤ kids.length ∧ Box.propsB kids = Box.propsB (kids.drop k) }) (fun k => [(5, .c (.int .i64 (k.1 : Int))), (2, .c (.bool false))]) (fun _ => [.box 33 BC false]) (fun k => kids.length - k.1) ⟨0, by simp⟩ ?_ ?_
             all_goals simp only [puts, List.foldl_cons, List.foldl_nil, List.set_cons_zero, List.set_cons_succ]
             · refine Le.wdrop 1 (Nat.le_of_ble_eq_true rfl) (by simp [subT, hBC, intsC]) (by simp [hBC, intsC]) (by simp [V.bnds, V.bnd]) (by simp [O.bnd, V.bnds, V.bnd, hBC, intsC])
             · rintro ⟨j, hj, hI⟩
               by_cases hlj : j < kids.length
               · rw [List.drop_eq_getElem_cons hlj] at hI
                 obtain ⟨c, hcc⟩ : ∃ c, kids[j] = c := ⟨_, rfl⟩
                 rw [hcc] at hI
                 simp only [Box.propsB] at hI
                 have ihc := ih c (hcc ▸ List.getElem_mem hlj)
                 have hw : IntKind.i64.wrap ((j : Int) + 1) = ((j + 1 : Nat) : Int) := by rw [wrap_i64 (by omega) (by omega)]; simp
                 cases hp : c.propB with
                 | false =>
                   rw [hp] at ihc hI
                   have e : Box.propsB kids = false := by rw [hI]; rfl
                   obtain ⟨ck, cn, cs, cw, ch, cd, cx, cy, ckids, co, csrc⟩ := c
                   simp only [boxV, Box.row, List.map_cons, List.map_nil] at ihc
                   refine go (cj @hBC <| cj @hlj <| cj @hcc <| @Box.row.eq_1) ?_
                   refine gc0 (ihc) Tryz.func35 ?_
                   refine go @hBC ?_
                   simp [aRet, ares, aresL, ares1, V.pub, V.pubs, ldV, Tryz.results35, hR, e]
                 | true =>
                   rw [hp] at ihc hI
                   have e : Box.propsB kids = Box.propsB (kids.drop (j + 1)) := by rw [hI]; rfl
                   obtain ⟨ck, cn, cs, cw, ch, cd, cx, cy, ckids, co, csrc⟩ := c
                   simp only [boxV, Box.row, List.map_cons, List.map_nil] at ihc
                   refine go (cj @hBC <| cj @hlj <| cj @hcc <| @Box.row.eq_1) ?_
                   refine gc0 (ihc) Tryz.func35 ?_
                   refine go (cj @hBC <| @hw) ?_
                   refine ⟨⟨j + 1, by omega, e⟩, by simp only; omega, ?_⟩
                   refine Le.wdrop 1 (Nat.le_of_ble_eq_true rfl) (by simp [subT, hBC, intsC]) (by simp [hBC, intsC]) (by simp [V.bnds, V.bnd]) (by simp [O.bnd, V.bnds, V.bnd, hBC, intsC])
               · have e : Box.propsB kids = true := by rw [hI, List.drop_of_length_le (by omega)]; rfl
                 refine go (cj @hBC <| @hlj) ?_
                 refine gc0 (hsrc) Tryz.func69 ?_
                 refine go0 ?_
                 simp [aRet, ares, aresL, ares1, V.pub, V.pubs, ldV, Tryz.results35, hR, e, hK, hA]
set_option maxHeartbeats 6400000 in
theorem rproper_k2 (b1 : ByteArray) (b2 b3 b4 b5 b6 b7 : Int) (kids : List Box) (o : Int) (src : List Int) (hn : b1.size ≤ maxLen) (hs : src.length ≤ maxLen) (hkl : kids.length ≤ 1000000) (ih : ∀ c ∈ kids, AC Tryz.prog 35 [boxV c] (.c (.bool c.propB))) : AC Tryz.prog 35 [boxV ⟨2, b1, b2, b3, b4, b5, b6, b7, kids, o, src⟩] (.c (.bool (Box.propB ⟨2, b1, b2, b3, b4, b5, b6, b7, kids, o, src⟩))) := by
 have hsrc := rsource_a (2) b1 b2 b3 b4 b5 b6 b7 kids o src hs
 obtain ⟨SB, hSB⟩ : ∃ SB, Box.srcB ⟨2, b1, b2, b3, b4, b5, b6, b7, kids, o, src⟩ = SB := ⟨_, rfl⟩
 rw [hSB] at hsrc
 obtain ⟨KB, hKB⟩ : ∃ KB, Box.kindB ⟨2, b1, b2, b3, b4, b5, b6, b7, kids, o, src⟩ = KB := ⟨_, rfl⟩
 obtain ⟨L, hL⟩ : ∃ L, L = [b3, b4, b5, b6, b7] := ⟨_, rfl⟩
 have hLl : L.length = 5 := by rw [hL]; rfl
 have hR : Box.propB ⟨2, b1, b2, b3, b4, b5, b6, b7, kids, o, src⟩ = (L.all lenValid && (KB && SB) && Box.propsB kids) := by
  simp only [Box.propB, Box.ownB, hSB, hKB, Box.lens, hL]
 have hkb : KB = Box.kindB ⟨2, b1, b2, b3, b4, b5, b6, b7, kids, o, src⟩ := hKB.symm
 rw [hR]
 simp only [boxV, Box.row, List.map_cons, List.map_nil] at hsrc
 rw [rows_map] at hsrc
 simp only [boxV, Box.row, List.map_cons, List.map_nil]
 rw [rows_map]
 obtain ⟨BC, hBC⟩ : ∃ BC, BC = ([.c (.int .i64 2), .c (.str b1), .c (.int .i64 b2), .c (.int .i64 b3), .c (.int .i64 b4), .c (.int .i64 b5), .c (.int .i64 b6), .c (.int .i64 b7), .c (.sl (kids.map Box.row)), .c (.int .i64 o), .c (intsC src)] : List V) := ⟨_, rfl⟩
 refine en Tryz.func35 Tryz.ntmps35 ?_
 refine go0 ?_
 refine lp (ι := { k : Nat // k ≤ 5 ∧ L.all lenValid = (L.drop k).all lenValid }) (fun k => [(3, .full (L.map fun n => [.int .i64 n])), (4, .c (.int .i64 (k.1 : Int))), (2, .c (.bool false))]) (fun _ => [.box 33 BC false]) (fun k => 5 - k.1) ⟨0, by simp⟩ ?_ ?_
 all_goals simp only [puts, List.foldl_cons, List.foldl_nil, List.set_cons_zero, List.set_cons_succ]
 · refine Le.wdrop 1 (Nat.le_of_ble_eq_true rfl) (by simp [subT, hBC, intsC, hL]) (by simp [hBC, intsC, hL]) (by simp [V.bnds, V.bnd]) (by simp [O.bnd, V.bnds, V.bnd, hBC, intsC, hL])
 · rintro ⟨i, hi, hA⟩
   by_cases hlt : i < 5
   · have hlt' : i < L.length := by omega
     have hli : (i : Int) < 5 := by omega
     rw [List.drop_eq_getElem_cons hlt', List.all_cons] at hA
     obtain ⟨z, hz⟩ : ∃ z, L[i] = z := ⟨_, rfl⟩
     rw [hz] at hA
     have hw : IntKind.i64.wrap ((i : Int) + 1) = ((i + 1 : Nat) : Int) := by rw [wrap_i64 (by omega) (by omega)]; simp
     by_cases h1 : z < -1073741824
     · have e : L.all lenValid = false := by rw [hA]; simp [lenValid]; omega
       refine go (cj @hBC <| cj @hLl <| cj @hlt <| cj @hli <| cj @hlt' <| cj @hz <| @h1) ?_
       simp [aRet, ares, aresL, ares1, V.pub, V.pubs, ldV, Tryz.results35, hR, e]
     · by_cases h2 : 1073741824 < z
       · have e : L.all lenValid = false := by rw [hA]; simp [lenValid]; omega
         refine go (cj @hBC <| cj @hLl <| cj @hlt <| cj @hli <| cj @hlt' <| cj @hz <| cj @h1 <| @h2) ?_
         simp [aRet, ares, aresL, ares1, V.pub, V.pubs, ldV, Tryz.results35, hR, e]
       · have e : L.all lenValid = (L.drop (i + 1)).all lenValid := by
          have : lenValid z = true := by simp [lenValid]; omega
          rw [hA, this, Bool.true_and]
         refine go (cj @hBC <| cj @hLl <| cj @hlt <| cj @hli <| cj @hlt' <| cj @hz <| cj @h1 <| cj @h2 <| @hw) ?_
         refine ⟨⟨i + 1, by omega, e⟩, by simp only; omega, ?_⟩
         refine Le.wdrop 1 (Nat.le_of_ble_eq_true rfl) (by simp [subT, hBC, intsC]) (by simp [hBC, intsC]) (by simp [V.bnds, V.bnd]) (by simp [O.bnd, V.bnds, V.bnd, hBC, intsC])
   · have hA' : L.all lenValid = true := by rw [hA, List.drop_of_length_le (by omega)]; rfl
     have hli : ¬ (i : Int) < 5 := by omega
     have hA := hA'
     by_cases n1 : b1 = ⟨#[]⟩
     · by_cases s0 : b2 = 0
       · subst n1 s0
         · by_cases s3 : 0 < kids.length
           · have hK : KB = false := by rw [hkb]; simp [Box.kindB]; intro h; rw [h] at s3; simp at s3
             refine go (cj @hBC <| cj @hLl <| cj @hli <| @s3) ?_
             simp [aRet, ares, aresL, ares1, V.pub, V.pubs, ldV, Tryz.results35, hR, hK]
           · have hK : KB = true := by rw [hkb]; simp [Box.kindB]; exact List.eq_nil_of_length_eq_zero (by omega)
             refine go (cj @hBC <| cj @intsC.eq_1 <| cj @hLl <| cj @hli <| @s3) ?_
             refine lp (ι := { k : Nat // k ≤ kids.length ∧ Box.propsB kids = Box.propsB (kids.drop k) }) (fun k => [(5, .c (.int .i64 (k.1 : Int))), (2, .c (.bool false))]) (fun _ => [.box 33 BC false]) (fun k => kids.length - k.1) ⟨0, by simp⟩ ?_ ?_
             all_goals simp only [puts, List.foldl_cons, List.foldl_nil, List.set_cons_zero, List.set_cons_succ]
             · refine Le.wdrop 1 (Nat.le_of_ble_eq_true rfl) (by simp [subT, hBC, intsC]) (by simp [hBC, intsC]) (by simp [V.bnds, V.bnd]) (by simp [O.bnd, V.bnds, V.bnd, hBC, intsC])
             · rintro ⟨j, hj, hI⟩
               by_cases hlj : j < kids.length
               · rw [List.drop_eq_getElem_cons hlj] at hI
                 obtain ⟨c, hcc⟩ : ∃ c, kids[j] = c := ⟨_, rfl⟩
                 rw [hcc] at hI
                 simp only [Box.propsB] at hI
                 have ihc := ih c (hcc ▸ List.getElem_mem hlj)
                 have hw : IntKind.i64.wrap ((j : Int) + 1) = ((j + 1 : Nat) : Int) := by rw [wrap_i64 (by omega) (by omega)]; simp
                 cases hp : c.propB with
                 | false =>
                   rw [hp] at ihc hI
                   have e : Box.propsB kids = false := by rw [hI]; rfl
                   obtain ⟨ck, cn, cs, cw, ch, cd, cx, cy, ckids, co, csrc⟩ := c
                   simp only [boxV, Box.row, List.map_cons, List.map_nil] at ihc
                   refine go (cj @hBC <| cj @hlj <| cj @hcc <| @Box.row.eq_1) ?_
                   refine gc0 (ihc) Tryz.func35 ?_
                   refine go @hBC ?_
                   simp [aRet, ares, aresL, ares1, V.pub, V.pubs, ldV, Tryz.results35, hR, e]
                 | true =>
                   rw [hp] at ihc hI
                   have e : Box.propsB kids = Box.propsB (kids.drop (j + 1)) := by rw [hI]; rfl
                   obtain ⟨ck, cn, cs, cw, ch, cd, cx, cy, ckids, co, csrc⟩ := c
                   simp only [boxV, Box.row, List.map_cons, List.map_nil] at ihc
                   refine go (cj @hBC <| cj @hlj <| cj @hcc <| @Box.row.eq_1) ?_
                   refine gc0 (ihc) Tryz.func35 ?_
                   refine go (cj @hBC <| @hw) ?_
                   refine ⟨⟨j + 1, by omega, e⟩, by simp only; omega, ?_⟩
                   refine Le.wdrop 1 (Nat.le_of_ble_eq_true rfl) (by simp [subT, hBC, intsC]) (by simp [hBC, intsC]) (by simp [V.bnds, V.bnd]) (by simp [O.bnd, V.bnds, V.bnd, hBC, intsC])
               · have e : Box.propsB kids = true := by rw [hI, List.drop_of_length_le (by omega)]; rfl
                 refine go (cj @hBC <| @hlj) ?_
                 refine gc0 (hsrc) Tryz.func69 ?_
                 refine go0 ?_
                 simp [aRet, ares, aresL, ares1, V.pub, V.pubs, ldV, Tryz.results35, hR, e, hK, hA]
       · have hK : KB = false := by rw [hkb]; simp [Box.kindB, s0]
         subst n1
         refine go (cj @hBC <| cj @hLl <| cj @hli <| @s0) ?_
         simp [aRet, ares, aresL, ares1, V.pub, V.pubs, ldV, Tryz.results35, hR, hK]
     · have hK : KB = false := by rw [hkb]; simp [Box.kindB, n1]
       refine go (cj @hBC <| cj @hLl <| cj @hli <| @n1) ?_
       simp [aRet, ares, aresL, ares1, V.pub, V.pubs, ldV, Tryz.results35, hR, hK]
set_option maxHeartbeats 6400000 in
theorem rproper_k3 (b1 : ByteArray) (b2 b3 b4 b5 b6 b7 : Int) (kids : List Box) (o : Int) (src : List Int) (hn : b1.size ≤ maxLen) (hs : src.length ≤ maxLen) (hkl : kids.length ≤ 1000000) (ih : ∀ c ∈ kids, AC Tryz.prog 35 [boxV c] (.c (.bool c.propB))) : AC Tryz.prog 35 [boxV ⟨3, b1, b2, b3, b4, b5, b6, b7, kids, o, src⟩] (.c (.bool (Box.propB ⟨3, b1, b2, b3, b4, b5, b6, b7, kids, o, src⟩))) := by
 have hsrc := rsource_a (3) b1 b2 b3 b4 b5 b6 b7 kids o src hs
 obtain ⟨SB, hSB⟩ : ∃ SB, Box.srcB ⟨3, b1, b2, b3, b4, b5, b6, b7, kids, o, src⟩ = SB := ⟨_, rfl⟩
 rw [hSB] at hsrc
 obtain ⟨KB, hKB⟩ : ∃ KB, Box.kindB ⟨3, b1, b2, b3, b4, b5, b6, b7, kids, o, src⟩ = KB := ⟨_, rfl⟩
 obtain ⟨L, hL⟩ : ∃ L, L = [b3, b4, b5, b6, b7] := ⟨_, rfl⟩
 have hLl : L.length = 5 := by rw [hL]; rfl
 have hR : Box.propB ⟨3, b1, b2, b3, b4, b5, b6, b7, kids, o, src⟩ = (L.all lenValid && (KB && SB) && Box.propsB kids) := by
  simp only [Box.propB, Box.ownB, hSB, hKB, Box.lens, hL]
 have hkb : KB = Box.kindB ⟨3, b1, b2, b3, b4, b5, b6, b7, kids, o, src⟩ := hKB.symm
 rw [hR]
 simp only [boxV, Box.row, List.map_cons, List.map_nil] at hsrc
 rw [rows_map] at hsrc
 simp only [boxV, Box.row, List.map_cons, List.map_nil]
 rw [rows_map]
 obtain ⟨BC, hBC⟩ : ∃ BC, BC = ([.c (.int .i64 3), .c (.str b1), .c (.int .i64 b2), .c (.int .i64 b3), .c (.int .i64 b4), .c (.int .i64 b5), .c (.int .i64 b6), .c (.int .i64 b7), .c (.sl (kids.map Box.row)), .c (.int .i64 o), .c (intsC src)] : List V) := ⟨_, rfl⟩
 refine en Tryz.func35 Tryz.ntmps35 ?_
 refine go0 ?_
 refine lp (ι := { k : Nat // k ≤ 5 ∧ L.all lenValid = (L.drop k).all lenValid }) (fun k => [(3, .full (L.map fun n => [.int .i64 n])), (4, .c (.int .i64 (k.1 : Int))), (2, .c (.bool false))]) (fun _ => [.box 33 BC false]) (fun k => 5 - k.1) ⟨0, by simp⟩ ?_ ?_
 all_goals simp only [puts, List.foldl_cons, List.foldl_nil, List.set_cons_zero, List.set_cons_succ]
 · refine Le.wdrop 1 (Nat.le_of_ble_eq_true rfl) (by simp [subT, hBC, intsC, hL]) (by simp [hBC, intsC, hL]) (by simp [V.bnds, V.bnd]) (by simp [O.bnd, V.bnds, V.bnd, hBC, intsC, hL])
 · rintro ⟨i, hi, hA⟩
   by_cases hlt : i < 5
   · have hlt' : i < L.length := by omega
     have hli : (i : Int) < 5 := by omega
     rw [List.drop_eq_getElem_cons hlt', List.all_cons] at hA
     obtain ⟨z, hz⟩ : ∃ z, L[i] = z := ⟨_, rfl⟩
     rw [hz] at hA
     have hw : IntKind.i64.wrap ((i : Int) + 1) = ((i + 1 : Nat) : Int) := by rw [wrap_i64 (by omega) (by omega)]; simp
     by_cases h1 : z < -1073741824
     · have e : L.all lenValid = false := by rw [hA]; simp [lenValid]; omega
       refine go (cj @hBC <| cj @hLl <| cj @hlt <| cj @hli <| cj @hlt' <| cj @hz <| @h1) ?_
       simp [aRet, ares, aresL, ares1, V.pub, V.pubs, ldV, Tryz.results35, hR, e]
     · by_cases h2 : 1073741824 < z
       · have e : L.all lenValid = false := by rw [hA]; simp [lenValid]; omega
         refine go (cj @hBC <| cj @hLl <| cj @hlt <| cj @hli <| cj @hlt' <| cj @hz <| cj @h1 <| @h2) ?_
         simp [aRet, ares, aresL, ares1, V.pub, V.pubs, ldV, Tryz.results35, hR, e]
       · have e : L.all lenValid = (L.drop (i + 1)).all lenValid := by
          have : lenValid z = true := by simp [lenValid]; omega
          rw [hA, this, Bool.true_and]
         refine go (cj @hBC <| cj @hLl <| cj @hlt <| cj @hli <| cj @hlt' <| cj @hz <| cj @h1 <| cj @h2 <| @hw) ?_
         refine ⟨⟨i + 1, by omega, e⟩, by simp only; omega, ?_⟩
         refine Le.wdrop 1 (Nat.le_of_ble_eq_true rfl) (by simp [subT, hBC, intsC]) (by simp [hBC, intsC]) (by simp [V.bnds, V.bnd]) (by simp [O.bnd, V.bnds, V.bnd, hBC, intsC])
   · have hA' : L.all lenValid = true := by rw [hA, List.drop_of_length_le (by omega)]; rfl
     have hli : ¬ (i : Int) < 5 := by omega
     have hA := hA'
     by_cases n1 : b1 = ⟨#[]⟩
     · by_cases s0 : b2 = 0
       · subst n1 s0
         · have hK : KB = true := by rw [hkb]; simp [Box.kindB]
           refine go (cj @hBC <| cj @intsC.eq_1 <| cj @hLl <| @hli) ?_
           refine lp (ι := { k : Nat // k ≤ kids.length ∧ Box.propsB kids = Box.propsB (kids.drop k) }) (fun k => [(5, .c (.int .i64 (k.1 : Int))), (2, .c (.bool false))]) (fun _ => [.box 33 BC false]) (fun k => kids.length - k.1) ⟨0, by simp⟩ ?_ ?_
           all_goals simp only [puts, List.foldl_cons, List.foldl_nil, List.set_cons_zero, List.set_cons_succ]
           · refine Le.wdrop 1 (Nat.le_of_ble_eq_true rfl) (by simp [subT, hBC, intsC]) (by simp [hBC, intsC]) (by simp [V.bnds, V.bnd]) (by simp [O.bnd, V.bnds, V.bnd, hBC, intsC])
           · rintro ⟨j, hj, hI⟩
             by_cases hlj : j < kids.length
             · rw [List.drop_eq_getElem_cons hlj] at hI
               obtain ⟨c, hcc⟩ : ∃ c, kids[j] = c := ⟨_, rfl⟩
               rw [hcc] at hI
               simp only [Box.propsB] at hI
               have ihc := ih c (hcc ▸ List.getElem_mem hlj)
               have hw : IntKind.i64.wrap ((j : Int) + 1) = ((j + 1 : Nat) : Int) := by rw [wrap_i64 (by omega) (by omega)]; simp
               cases hp : c.propB with
               | false =>
                 rw [hp] at ihc hI
                 have e : Box.propsB kids = false := by rw [hI]; rfl
                 obtain ⟨ck, cn, cs, cw, ch, cd, cx, cy, ckids, co, csrc⟩ := c
                 simp only [boxV, Box.row, List.map_cons, List.map_nil] at ihc
                 refine go (cj @hBC <| cj @hlj <| cj @hcc <| @Box.row.eq_1) ?_
                 refine gc0 (ihc) Tryz.func35 ?_
                 refine go @hBC ?_
                 simp [aRet, ares, aresL, ares1, V.pub, V.pubs, ldV, Tryz.results35, hR, e]
               | true =>
                 rw [hp] at ihc hI
                 have e : Box.propsB kids = Box.propsB (kids.drop (j + 1)) := by rw [hI]; rfl
                 obtain ⟨ck, cn, cs, cw, ch, cd, cx, cy, ckids, co, csrc⟩ := c
                 simp only [boxV, Box.row, List.map_cons, List.map_nil] at ihc
                 refine go (cj @hBC <| cj @hlj <| cj @hcc <| @Box.row.eq_1) ?_
                 refine gc0 (ihc) Tryz.func35 ?_
                 refine go (cj @hBC <| @hw) ?_
                 refine ⟨⟨j + 1, by omega, e⟩, by simp only; omega, ?_⟩
                 refine Le.wdrop 1 (Nat.le_of_ble_eq_true rfl) (by simp [subT, hBC, intsC]) (by simp [hBC, intsC]) (by simp [V.bnds, V.bnd]) (by simp [O.bnd, V.bnds, V.bnd, hBC, intsC])
             · have e : Box.propsB kids = true := by rw [hI, List.drop_of_length_le (by omega)]; rfl
               refine go (cj @hBC <| @hlj) ?_
               refine gc0 (hsrc) Tryz.func69 ?_
               refine go0 ?_
               simp [aRet, ares, aresL, ares1, V.pub, V.pubs, ldV, Tryz.results35, hR, e, hK, hA]
       · have hK : KB = false := by rw [hkb]; simp [Box.kindB, s0]
         subst n1
         refine go (cj @hBC <| cj @hLl <| cj @hli <| @s0) ?_
         simp [aRet, ares, aresL, ares1, V.pub, V.pubs, ldV, Tryz.results35, hR, hK]
     · have hK : KB = false := by rw [hkb]; simp [Box.kindB, n1]
       refine go (cj @hBC <| cj @hLl <| cj @hli <| @n1) ?_
       simp [aRet, ares, aresL, ares1, V.pub, V.pubs, ldV, Tryz.results35, hR, hK]
set_option maxHeartbeats 6400000 in
theorem rproper_kx (b0 : Int) (b1 : ByteArray) (b2 b3 b4 b5 b6 b7 : Int) (kids : List Box) (o : Int) (src : List Int) (k1 : ¬ b0 = 1) (k2 : ¬ b0 = 2) (k3 : ¬ b0 = 3) (hn : b1.size ≤ maxLen) (hs : src.length ≤ maxLen) (hkl : kids.length ≤ 1000000) (ih : ∀ c ∈ kids, AC Tryz.prog 35 [boxV c] (.c (.bool c.propB))) : AC Tryz.prog 35 [boxV ⟨b0, b1, b2, b3, b4, b5, b6, b7, kids, o, src⟩] (.c (.bool (Box.propB ⟨b0, b1, b2, b3, b4, b5, b6, b7, kids, o, src⟩))) := by
 have hsrc := rsource_a b0 b1 b2 b3 b4 b5 b6 b7 kids o src hs
 obtain ⟨SB, hSB⟩ : ∃ SB, Box.srcB ⟨b0, b1, b2, b3, b4, b5, b6, b7, kids, o, src⟩ = SB := ⟨_, rfl⟩
 rw [hSB] at hsrc
 obtain ⟨KB, hKB⟩ : ∃ KB, Box.kindB ⟨b0, b1, b2, b3, b4, b5, b6, b7, kids, o, src⟩ = KB := ⟨_, rfl⟩
 obtain ⟨L, hL⟩ : ∃ L, L = [b3, b4, b5, b6, b7] := ⟨_, rfl⟩
 have hLl : L.length = 5 := by rw [hL]; rfl
 have hR : Box.propB ⟨b0, b1, b2, b3, b4, b5, b6, b7, kids, o, src⟩ = (L.all lenValid && (KB && SB) && Box.propsB kids) := by
  simp only [Box.propB, Box.ownB, hSB, hKB, Box.lens, hL]
 have hkb : KB = Box.kindB ⟨b0, b1, b2, b3, b4, b5, b6, b7, kids, o, src⟩ := hKB.symm
 rw [hR]
 simp only [boxV, Box.row, List.map_cons, List.map_nil] at hsrc
 rw [rows_map] at hsrc
 simp only [boxV, Box.row, List.map_cons, List.map_nil]
 rw [rows_map]
 obtain ⟨BC, hBC⟩ : ∃ BC, BC = ([.c (.int .i64 b0), .c (.str b1), .c (.int .i64 b2), .c (.int .i64 b3), .c (.int .i64 b4), .c (.int .i64 b5), .c (.int .i64 b6), .c (.int .i64 b7), .c (.sl (kids.map Box.row)), .c (.int .i64 o), .c (intsC src)] : List V) := ⟨_, rfl⟩
 refine en Tryz.func35 Tryz.ntmps35 ?_
 refine go0 ?_
 refine lp (ι := { k : Nat // k ≤ 5 ∧ L.all lenValid = (L.drop k).all lenValid }) (fun k => [(3, .full (L.map fun n => [.int .i64 n])), (4, .c (.int .i64 (k.1 : Int))), (2, .c (.bool false))]) (fun _ => [.box 33 BC false]) (fun k => 5 - k.1) ⟨0, by simp⟩ ?_ ?_
 all_goals simp only [puts, List.foldl_cons, List.foldl_nil, List.set_cons_zero, List.set_cons_succ]
 · refine Le.wdrop 1 (Nat.le_of_ble_eq_true rfl) (by simp [subT, hBC, intsC, hL]) (by simp [hBC, intsC, hL]) (by simp [V.bnds, V.bnd]) (by simp [O.bnd, V.bnds, V.bnd, hBC, intsC, hL])
 · rintro ⟨i, hi, hA⟩
   by_cases hlt : i < 5
   · have hlt' : i < L.length := by omega
     have hli : (i : Int) < 5 := by omega
     rw [List.drop_eq_getElem_cons hlt', List.all_cons] at hA
     obtain ⟨z, hz⟩ : ∃ z, L[i] = z := ⟨_, rfl⟩
     rw [hz] at hA
     have hw : IntKind.i64.wrap ((i : Int) + 1) = ((i + 1 : Nat) : Int) := by rw [wrap_i64 (by omega) (by omega)]; simp
     by_cases h1 : z < -1073741824
     · have e : L.all lenValid = false := by rw [hA]; simp [lenValid]; omega
       refine go (cj @hBC <| cj @hLl <| cj @hlt <| cj @hli <| cj @hlt' <| cj @hz <| @h1) ?_
       simp [aRet, ares, aresL, ares1, V.pub, V.pubs, ldV, Tryz.results35, hR, e]
     · by_cases h2 : 1073741824 < z
       · have e : L.all lenValid = false := by rw [hA]; simp [lenValid]; omega
         refine go (cj @hBC <| cj @hLl <| cj @hlt <| cj @hli <| cj @hlt' <| cj @hz <| cj @h1 <| @h2) ?_
         simp [aRet, ares, aresL, ares1, V.pub, V.pubs, ldV, Tryz.results35, hR, e]
       · have e : L.all lenValid = (L.drop (i + 1)).all lenValid := by
          have : lenValid z = true := by simp [lenValid]; omega
          rw [hA, this, Bool.true_and]
         refine go (cj @hBC <| cj @hLl <| cj @hlt <| cj @hli <| cj @hlt' <| cj @hz <| cj @h1 <| cj @h2 <| @hw) ?_
         refine ⟨⟨i + 1, by omega, e⟩, by simp only; omega, ?_⟩
         refine Le.wdrop 1 (Nat.le_of_ble_eq_true rfl) (by simp [subT, hBC, intsC]) (by simp [hBC, intsC]) (by simp [V.bnds, V.bnd]) (by simp [O.bnd, V.bnds, V.bnd, hBC, intsC])
   · have hA' : L.all lenValid = true := by rw [hA, List.drop_of_length_le (by omega)]; rfl
     have hli : ¬ (i : Int) < 5 := by omega
     have hA := hA'
     have hK : KB = false := by rw [hkb]; simp [Box.kindB, k1, k2, k3]
     refine go (cj @hBC <| cj @hLl <| cj @hli <| cj @k1 <| cj @k2 <| @k3) ?_
     simp [aRet, ares, aresL, ares1, V.pub, V.pubs, ldV, Tryz.results35, hR, hK]
theorem rproper_step (b0 : Int) (b1 : ByteArray) (b2 b3 b4 b5 b6 b7 : Int) (kids : List Box) (o : Int) (src : List Int) (hn : b1.size ≤ maxLen) (hs : src.length ≤ maxLen) (hkl : kids.length ≤ 1000000) (ih : ∀ c ∈ kids, AC Tryz.prog 35 [boxV c] (.c (.bool c.propB))) : AC Tryz.prog 35 [boxV ⟨b0, b1, b2, b3, b4, b5, b6, b7, kids, o, src⟩] (.c (.bool (Box.propB ⟨b0, b1, b2, b3, b4, b5, b6, b7, kids, o, src⟩))) := by
 by_cases k1 : b0 = 1
 · subst k1; exact rproper_k1 b1 b2 b3 b4 b5 b6 b7 kids o src hn hs hkl ih
 · by_cases k2 : b0 = 2
   · subst k2; exact rproper_k2 b1 b2 b3 b4 b5 b6 b7 kids o src hn hs hkl ih
   · by_cases k3 : b0 = 3
     · subst k3; exact rproper_k3 b1 b2 b3 b4 b5 b6 b7 kids o src hn hs hkl ih
     · exact rproper_kx b0 b1 b2 b3 b4 b5 b6 b7 kids o src k1 k2 k3 hn hs hkl ih
theorem rproper_n : ∀ (n : Nat) (b : Box), SizeOf.sizeOf b < n → b.okk ∧ b.cnt ≤ 1000000 → AC Tryz.prog 35 [boxV b] (.c (.bool b.propB))
 | 0, b, h, _ => absurd h (by omega)
 | n + 1, ⟨b0, b1, b2, b3, b4, b5, b6, b7, kids, o, src⟩, hn, hfit => by
   have hq := hfit.2
   simp only [Box.cnt] at hq
   have hl := cnts_len kids
   exact rproper_step b0 b1 b2 b3 b4 b5 b6 b7 kids o src hfit.1.1 hfit.1.2.1 (by omega) fun c hc => rproper_n n c (by
    have := List.sizeOf_lt_of_mem hc
    simp only [Box.mk.sizeOf_spec] at hn
    omega) ⟨okks_mem hfit.1.2.2 c hc, by have := cnts_mem kids c hc; omega⟩
theorem rproper_a (b : Box) (h : b.okk ∧ b.cnt ≤ 1000000) : AC Tryz.prog 35 [boxV b] (.c (.bool b.propB)) := rproper_n (SizeOf.sizeOf b + 1) b (by omega) h
theorem rbvalid_a (b : Box) (ho : b.okk) (hc : b.cnt ≤ 1000000) : AC Tryz.prog 16 [boxV b] (.c (.bool b.validB)) := by
 have h1 := rproper_a b ⟨ho, hc⟩
 have h2 := rcount_a b hc
 have h3 := rnest_a b hc
 have hR : b.validB = (b.propB && (decide ((b.cnt : Int) ≤ 20000) && decide ((b.nest : Int) ≤ 100))) := by
  unfold Box.validB
  congr 2 <;> rw [decide_eq_decide] <;> omega
 rw [hR]
 obtain ⟨N, hN⟩ : ∃ N : Int, (b.cnt : Int) = N := ⟨_, rfl⟩
 obtain ⟨M, hM⟩ : ∃ M : Int, (b.nest : Int) = M := ⟨_, rfl⟩
 rw [hN] at h2 ⊢
 rw [hM] at h3 ⊢
 cases hp : b.propB with
 | false =>
   rw [hp] at h1
   obtain ⟨b0, b1, b2, b3, b4, b5, b6, b7, kids, o, src⟩ := b
   simp only [boxV, Box.row, List.map_cons, List.map_nil] at h1 h2 h3 ⊢
   refine en Tryz.func16 Tryz.ntmps16 ?_
   refine go0 ?_
   refine gc0 (h1) Tryz.func35 ?_
   refine go0 ?_
   simp [aRet, ares, aresL, ares1, V.pub, V.pubs, ldV, Tryz.results16]
 | true =>
   rw [hp] at h1
   obtain ⟨b0, b1, b2, b3, b4, b5, b6, b7, kids, o, src⟩ := b
   simp only [boxV, Box.row, List.map_cons, List.map_nil] at h1 h2 h3 ⊢
   by_cases c1 : N ≤ 20000
   · refine en Tryz.func16 Tryz.ntmps16 ?_
     refine go0 ?_
     refine gc0 (h1) Tryz.func35 ?_
     refine gc @c1 (h2) Tryz.func36 ?_
     refine gc0 (h3) Tryz.func37 ?_
     refine go0 ?_
     simp [aRet, ares, aresL, ares1, V.pub, V.pubs, ldV, Tryz.results16, c1]
   · refine en Tryz.func16 Tryz.ntmps16 ?_
     refine go0 ?_
     refine gc0 (h1) Tryz.func35 ?_
     refine gc @c1 (h2) Tryz.func36 ?_
     refine go0 ?_
     simp [aRet, ares, aresL, ares1, V.pub, V.pubs, ldV, Tryz.results16, c1]
end Go.Proofs.YthbcljjpmdfflaaGreat
