/-
 Layer 28's reference on the abstract machine: size, Few, SameInts, Equal, At, List, Rule.
-/
import Derived.Test.YthbcljjpmdfflaaGreatBi
namespace Go.Proofs.YthbcljjpmdfflaaGreat
open Go.RowKit
set_option linter.unusedSimpArgs false
set_option linter.unusedVariables false
set_option maxRecDepth 100000
set_option maxHeartbeats 1600000 in
theorem rsize_step (b0 : Int) (b1 : ByteArray) (b2 b3 b4 b5 b6 b7 : Int) (kids : List Box) (o : Int) (src : List Int) (m : Int) (hk1 : kids.length ≤ maxLen) (hm1 : 1 ≤ m) (hm2 : m ≤ 1000000) (ih : ∀ c ∈ kids, ∀ m : Int, 1 ≤ m → m ≤ 1000000 → AC Tryz.prog 34 [boxV c, .c (.int .i64 m)] (.c (.int .i64 (c.sizeI m)))) : AC Tryz.prog 34 [boxV ⟨b0, b1, b2, b3, b4, b5, b6, b7, kids, o, src⟩, .c (.int .i64 m)] (.c (.int .i64 (Box.sizeI ⟨b0, b1, b2, b3, b4, b5, b6, b7, kids, o, src⟩ m))) := by
 unfold maxLen at hk1
 have hR : Box.sizeI ⟨b0, b1, b2, b3, b4, b5, b6, b7, kids, o, src⟩ m = Box.sizesI kids m 1 := rfl
 rw [hR]
 simp only [boxV, Box.row, List.map_cons, List.map_nil]
 rw [rows_map]
 obtain ⟨BC, hBC⟩ : ∃ BC, BC = ([.c (.int .i64 b0), .c (.str b1), .c (.int .i64 b2), .c (.int .i64 b3), .c (.int .i64 b4), .c (.int .i64 b5), .c (.int .i64 b6), .c (.int .i64 b7), .c (.sl (kids.map Box.row)), .c (.int .i64 o), .c (intsC src)] : List V) := ⟨_, rfl⟩
 refine en Tryz.func34 Tryz.ntmps34 ?_
 refine go0 ?_
 refine lp (ι := { k : Nat × Int // k.1 ≤ kids.length ∧ 1 ≤ k.2 ∧ k.2 ≤ m ∧ Box.sizesI kids m 1 = Box.sizesI (kids.drop k.1) m k.2 }) (fun k => [(4, .c (.int .i64 0)), (5, .c (.int .i64 k.1.2)), (6, .c (.int .i64 (k.1.1 : Int)))]) (fun _ => [.box 33 BC false]) (fun k => kids.length - k.1.1) ⟨(0, 1), by simp; omega⟩ ?_ ?_
 all_goals simp only [puts, List.foldl_cons, List.foldl_nil, List.set_cons_zero, List.set_cons_succ]
 · refine Le.wdrop 1 (Nat.le_of_ble_eq_true rfl) (by simp [subT, hBC, intsC]) (by simp [hBC, intsC]) (by simp [V.bnds, V.bnd]) (by simp [O.bnd, V.bnds, V.bnd, hBC, intsC])
 · rintro ⟨⟨j, n⟩, hj, hn1, hn2, hI⟩
   simp only at hj hn1 hn2 hI ⊢
   by_cases hlj : j < kids.length
   · rw [List.drop_eq_getElem_cons hlj] at hI
     obtain ⟨c, hcc⟩ : ∃ c, kids[j] = c := ⟨_, rfl⟩
     rw [hcc] at hI
     simp only [Box.sizesI] at hI
     have hw : IntKind.i64.wrap ((j : Int) + 1) = ((j + 1 : Nat) : Int) := by rw [wrap_i64 (by omega) (by omega)]; simp
     by_cases hnm : n < m
     · rw [if_pos hnm] at hI
       have ihc := ih c (hcc ▸ List.getElem_mem hlj) (m - n) (by omega) (by omega)
       have hq := sizeI_eq c (m - n)
       have hq1 := hq.1
       have hq2 := hq.2.2.2 (by omega)
       obtain ⟨z, hz⟩ : ∃ z, c.sizeI (m - n) = z := ⟨_, rfl⟩
       rw [hz] at ihc hI hq1 hq2
       have hws : IntKind.i64.wrap (m - n) = m - n := wrap_i64 (by omega) (by omega)
       have hwa : IntKind.i64.wrap (n + z) = n + z := wrap_i64 (by omega) (by omega)
       obtain ⟨ck, cn, cs, cw, ch, cd, cx, cy, ckids, co, csrc⟩ := c
       simp only [boxV, Box.row, List.map_cons, List.map_nil] at ihc
       refine go (cj @hBC <| cj @hlj <| cj @hcc <| cj @hnm <| cj @hws <| @Box.row.eq_1) ?_
       refine gc @hwa (ihc) Tryz.func34 ?_
       refine go (cj @hBC <| @hw) ?_
       refine ⟨⟨(j + 1, n + z), by omega, by simp only; omega, by simp only; omega, hI⟩, by simp only; omega, ?_⟩
       refine Le.wdrop 1 (Nat.le_of_ble_eq_true rfl) (by simp [subT, hBC, intsC]) (by simp [hBC, intsC]) (by simp [V.bnds, V.bnd]) (by simp [O.bnd, V.bnds, V.bnd, hBC, intsC])
     · rw [if_neg hnm] at hI
       refine go (cj @hBC <| cj @hlj <| @hnm) ?_
       simp [aRet, ares, aresL, ares1, V.pub, V.pubs, ldV, Tryz.results34, hI]
   · rw [List.drop_of_length_le (by omega)] at hI
     simp only [Box.sizesI] at hI
     refine go (cj @hBC <| @hlj) ?_
     simp [aRet, ares, aresL, ares1, V.pub, V.pubs, ldV, Tryz.results34, hI]
theorem rsize_n : ∀ (n : Nat) (b : Box), SizeOf.sizeOf b < n → b.fit → ∀ m : Int, 1 ≤ m → m ≤ 1000000 → AC Tryz.prog 34 [boxV b, .c (.int .i64 m)] (.c (.int .i64 (b.sizeI m)))
 | 0, b, h, _ => absurd h (by omega)
 | n + 1, ⟨b0, b1, b2, b3, b4, b5, b6, b7, kids, o, src⟩, hn, hfit => by
   simp only [Box.fit] at hfit
   intro m h1 h2
   exact rsize_step b0 b1 b2 b3 b4 b5 b6 b7 kids o src m hfit.1 h1 h2 fun c hc => rsize_n n c (by
    have := List.sizeOf_lt_of_mem hc
    simp only [Box.mk.sizeOf_spec] at hn
    omega) (Box.fits_get hfit.2.2 c hc)
theorem rbfew_a (b : Box) (h : b.fit) : AC Tryz.prog 15 [boxV b, .c (.int .i64 200)] (.c (.bool (decide (b.cnt ≤ 200)))) := by
 have h1 := rsize_n (SizeOf.sizeOf b + 1) b (by omega) h 201 (by omega) (by omega)
 rw [← few_iff]
 obtain ⟨z, hz⟩ : ∃ z, b.sizeI 201 = z := ⟨_, rfl⟩
 rw [hz] at h1 ⊢
 obtain ⟨b0, b1, b2, b3, b4, b5, b6, b7, kids, o, src⟩ := b
 simp only [boxV, Box.row, List.map_cons, List.map_nil] at h1 ⊢
 have hw : IntKind.i64.wrap 201 = 201 := wrap_i64 (by omega) (by omega)
 refine en Tryz.func15 Tryz.ntmps15 ?_
 refine go @hw ?_
 refine gc0 (h1) Tryz.func34 ?_
 refine go0 ?_
 simp [aRet, ares, aresL, ares1, V.pub, V.pubs, ldV, Tryz.results15]
theorem rsameints_a (l : List Int) (hl : l.length ≤ maxLen) : AC Tryz.prog 28 [.c (intsC l), .c (intsC l)] (.c (.bool true)) := by
 unfold maxLen at hl
 unfold intsC
 refine en Tryz.func28 Tryz.ntmps28 ?_
 refine go0 ?_
 refine lp (ι := { k : Nat // k ≤ l.length }) (fun k => [(4, .c (.bool false)), (5, .c (.int .i64 (k.1 : Int)))]) (fun _ => []) (fun k => l.length - k.1) ⟨0, by simp⟩ ?_ ?_
 all_goals simp only [puts, List.foldl_cons, List.foldl_nil, List.set_cons_zero, List.set_cons_succ]
 · refine Le.weak (by simp [subT])
 · rintro ⟨k, hk⟩
   by_cases hlt : k < l.length
   · obtain ⟨z, hz⟩ : ∃ z, l[k] = z := ⟨_, rfl⟩
     have hw : IntKind.i64.wrap ((k : Int) + 1) = ((k + 1 : Nat) : Int) := by rw [wrap_i64 (by omega) (by omega)]; simp
     refine go (cj @hlt <| cj @hz <| @hw) ?_
     refine ⟨⟨k + 1, by omega⟩, by simp only; omega, ?_⟩
     refine Le.weak (by simp [subT])
   · refine go @hlt ?_
     simp [aRet, ares, aresL, ares1, V.pub, V.pubs, ldV, Tryz.results28]
set_option maxHeartbeats 6400000 in
theorem requal_step (b0 : Int) (b1 : ByteArray) (b2 b3 b4 b5 b6 b7 : Int) (kids : List Box) (o : Int) (src : List Int) (f1 : kids.length ≤ maxLen) (f2 : src.length ≤ maxLen) (ih : ∀ c ∈ kids, AC Tryz.prog 9 [boxV c, boxV c] (.c (.bool true))) : AC Tryz.prog 9 [boxV ⟨b0, b1, b2, b3, b4, b5, b6, b7, kids, o, src⟩, boxV ⟨b0, b1, b2, b3, b4, b5, b6, b7, kids, o, src⟩] (.c (.bool true)) := by
 have hsi := rsameints_a src f2
 unfold maxLen at f1
 simp only [boxV, Box.row, List.map_cons, List.map_nil]
 rw [rows_map]
 obtain ⟨BC, hBC⟩ : ∃ BC, BC = ([.c (.int .i64 b0), .c (.str b1), .c (.int .i64 b2), .c (.int .i64 b3), .c (.int .i64 b4), .c (.int .i64 b5), .c (.int .i64 b6), .c (.int .i64 b7), .c (.sl (kids.map Box.row)), .c (.int .i64 o), .c (intsC src)] : List V) := ⟨_, rfl⟩
 refine en Tryz.func9 Tryz.ntmps9 ?_
 with_reducible refine AW.seq ?_
 with_reducible refine AW.region ?_
 with_reducible refine aops_run (by simp [List.replicate_succ]; first | exact rfl | exact ⟨rfl, rfl⟩) ?_
 with_reducible refine aops_done ?_
 with_reducible refine aThen_n ?_
 with_reducible refine AW.seq ?_
 with_reducible refine AW.seq ?_
 with_reducible refine AW.region ?_
 iterate 7 (with_reducible refine aops_chunk (by simp only [List.append_eq, List.cons_append, List.nil_append, List.map_cons, List.map_nil]; exact rfl) 10 (by as_aux_lemma => simp [runG, gateS, List.replicate_succ]; first | exact rfl | exact ⟨rfl, rfl⟩) ?_)
 refine gc0 (hsi) Tryz.func28 ?_
 refine go0 ?_
 refine lp (ι := { k : Nat // k ≤ kids.length }) (fun k => [(5, .c (.int .i64 (k.1 : Int))), (4, .c (.bool false))]) (fun _ => [.box 33 BC false, .box 33 BC false]) (fun k => kids.length - k.1) ⟨0, by simp⟩ ?_ ?_
 all_goals simp only [puts, List.foldl_cons, List.foldl_nil, List.set_cons_zero, List.set_cons_succ]
 · refine Le.wdrop 2 (Nat.le_of_ble_eq_true rfl) (by simp [subT, hBC]) (by simp [hBC]) (by simp [V.bnds, V.bnd]) (by simp [O.bnd, V.bnds, V.bnd, hBC])
 · rintro ⟨j, hj⟩
   by_cases hlj : j < kids.length
   · obtain ⟨c, hcc⟩ : ∃ c, kids[j] = c := ⟨_, rfl⟩
     have ihc := ih c (hcc ▸ List.getElem_mem hlj)
     have hrl : c.row.length = 11 := by cases c; rfl
     have hw : IntKind.i64.wrap ((j : Int) + 1) = ((j + 1 : Nat) : Int) := by rw [wrap_i64 (by omega) (by omega)]; simp
     obtain ⟨ck, cn, cs, cw, ch, cd, cx, cy, ckids, co, csrc⟩ := c
     simp only [boxV, Box.row, List.map_cons, List.map_nil] at ihc
     refine go (cj @hBC <| cj @hlj <| cj @hcc <| @Box.row.eq_1) ?_
     refine gc0 (ihc) Tryz.func9 ?_
     refine go (cj @hBC <| @hw) ?_
     refine ⟨⟨j + 1, by omega⟩, by simp only; omega, ?_⟩
     refine Le.wdrop 2 (Nat.le_of_ble_eq_true rfl) (by simp [subT, hBC]) (by simp [hBC]) (by simp [V.bnds, V.bnd]) (by simp [O.bnd, V.bnds, V.bnd, hBC])
   · refine go (cj @hBC <| @hlj) ?_
     simp [aRet, ares, aresL, ares1, V.pub, V.pubs, ldV, Tryz.results9]
theorem requal_n : ∀ (n : Nat) (b : Box), SizeOf.sizeOf b < n → b.fit → AC Tryz.prog 9 [boxV b, boxV b] (.c (.bool true))
 | 0, b, h, _ => absurd h (by omega)
 | n + 1, ⟨b0, b1, b2, b3, b4, b5, b6, b7, kids, o, src⟩, hn, hfit => by
   simp only [Box.fit] at hfit
   exact requal_step b0 b1 b2 b3 b4 b5 b6 b7 kids o src hfit.1 hfit.2.1 fun c hc => requal_n n c (by
    have := List.sizeOf_lt_of_mem hc
    simp only [Box.mk.sizeOf_spec] at hn
    omega) (Box.fits_get hfit.2.2 c hc)
theorem requal_a (b : Box) (h : b.fit) : AC Tryz.prog 9 [boxV b, boxV b] (.c (.bool true)) := requal_n (SizeOf.sizeOf b + 1) b (by omega) h
def Box.at_ (b : Box) (x y : Int) : Box := { b with x := x, y := y }
def ruleB (w h d : Int) : Box := ⟨2, ⟨#[]⟩, 0, w, h, d, 0, 0, [], 0, []⟩
def listB (w h d : Int) (kids : List Box) : Box := ⟨3, ⟨#[]⟩, 0, w, h, d, 0, 0, kids, 0, []⟩
theorem rrule_a (w h d : Int) : AC Tryz.prog 10 [.c (.int .i64 w), .c (.int .i64 h), .c (.int .i64 d)] (boxV (ruleB w h d)) := by
 simp only [boxV, ruleB, Box.row, Box.rows, List.map_cons, List.map_nil]
 refine en Tryz.func10 Tryz.ntmps10 ?_
 refine go0 ?_
 simp [aRet, ares, aresL, ares1, V.pub, V.pubs, ldV, Tryz.results10, intsC]
end Go.Proofs.YthbcljjpmdfflaaGreat
