/-
 Layer 6's reference on the abstract machine: Same.
-/
import Derived.Test.YthbcljjpmdfflaaG7
import Derived.Test.YthbcljjpmdfflaaG4
namespace Go.Proofs.Ythbcljjpmdfflaa
open Go.RowKit
set_option linter.unusedSimpArgs false
set_option linter.unusedVariables false
set_option maxRecDepth 100000
mutual
def Box.fit : Box → Prop
 | ⟨_, _, _, _, _, _, _, _, kids, _, src⟩ => kids.length ≤ maxLen ∧ src.length ≤ maxLen ∧ Box.fits kids
def Box.fits : List Box → Prop
 | [] => True
 | b :: l => b.fit ∧ Box.fits l
end
theorem Box.fits_get : ∀ {l : List Box}, Box.fits l → ∀ b ∈ l, b.fit
 | [], _, b, h => by cases h
 | x :: l, hl, b, h => by
   simp only [Box.fits] at hl
   rcases List.mem_cons.1 h with rfl | h
   · exact hl.1
   · exact Box.fits_get hl.2 b h
theorem rows_map : ∀ l : List Box, Box.rows l = l.map Box.row
 | [] => rfl
 | x :: l => by simp only [Box.rows, List.map_cons]; rw [rows_map l]
set_option maxHeartbeats 6400000 in
theorem rsame_step (bk : Int) (bn : ByteArray) (bs bw bh bd bx by_ : Int) (kids : List Box) (bo : Int) (src : List Int) (f1 : kids.length ≤ maxLen) (f2 : src.length ≤ maxLen) (ih : ∀ c ∈ kids, AC Try.prog 29 [boxV c, boxV c] (.c (.bool true))) : AC Try.prog 29 [boxV ⟨bk, bn, bs, bw, bh, bd, bx, by_, kids, bo, src⟩, boxV ⟨bk, bn, bs, bw, bh, bd, bx, by_, kids, bo, src⟩] (.c (.bool true)) := by
 unfold maxLen at f1 f2
 simp only [boxV, Box.row, List.map_cons, List.map_nil]
 rw [rows_map]
 obtain ⟨BC, hBC⟩ : ∃ BC, BC = ([.c (.int .i64 bk), .c (.str bn), .c (.int .i64 bs), .c (.int .i64 bw), .c (.int .i64 bh), .c (.int .i64 bd), .c (.int .i64 bx), .c (.int .i64 by_), .c (.sl (kids.map Box.row)), .c (.int .i64 bo), .c (intsC src)] : List V) := ⟨_, rfl⟩
 refine en Try.func29 Try.ntmps29 ?_
 with_reducible refine AW.seq ?_
 with_reducible refine AW.region ?_
 with_reducible refine aops_run (by simp [List.replicate_succ]; first | exact rfl | exact ⟨rfl, rfl⟩) ?_
 with_reducible refine aops_done ?_
 with_reducible refine aThen_n ?_
 with_reducible refine AW.seq ?_
 with_reducible refine AW.seq ?_
 with_reducible refine AW.region ?_
 repeat (first | (with_reducible refine aops_done ?_) | (with_reducible refine aops_chunk (by simp only [List.append_eq, List.cons_append, List.nil_append, List.map_cons, List.map_nil]; exact rfl) 10 (by as_aux_lemma => simp [runG, gateS, List.replicate_succ, intsC]; first | exact rfl | exact ⟨rfl, rfl⟩) ?_))
 refine go @intsC.eq_1 ?_
 refine lp (ι := { k : Nat // k ≤ src.length }) (fun k => [(5, .c (.int .i64 (k.1 : Int))), (4, .c (.bool false))]) (fun _ => [.box 45 BC false, .box 45 BC false]) (fun k => src.length - k.1) ⟨0, by simp⟩ ?_ ?_
 all_goals simp only [puts, List.foldl_cons, List.foldl_nil, List.set_cons_zero, List.set_cons_succ]
 · refine Le.wdrop 2 (Nat.le_of_ble_eq_true rfl) (by simp [subT, hBC, intsC]) (by simp [hBC, intsC]) (by simp [V.bnds, V.bnd]) (by simp [O.bnd, V.bnds, V.bnd, hBC, intsC])
 · rintro ⟨k, hk⟩
   by_cases hlt : k < src.length
   · obtain ⟨z, hzz⟩ : ∃ z, src[k] = z := ⟨_, rfl⟩
     have hw : IntKind.i64.wrap ((k : Int) + 1) = ((k + 1 : Nat) : Int) := by rw [wrap_i64 (by omega) (by omega)]; simp
     refine go (cj @hBC <| cj @intsC.eq_1 <| cj @hlt <| cj @hzz <| @hw) ?_
     refine ⟨⟨k + 1, by omega⟩, by simp only; omega, ?_⟩
     refine Le.wdrop 2 (Nat.le_of_ble_eq_true rfl) (by simp [subT, hBC, intsC]) (by simp [hBC, intsC]) (by simp [V.bnds, V.bnd]) (by simp [O.bnd, V.bnds, V.bnd, hBC, intsC])
   · refine go (cj @hBC <| cj @intsC.eq_1 <| @hlt) ?_
     refine lp (ι := { k : Nat // k ≤ kids.length }) (fun k => [(6, .c (.int .i64 (k.1 : Int))), (4, .c (.bool false))]) (fun _ => [.box 45 BC false, .box 45 BC false]) (fun k => kids.length - k.1) ⟨0, by simp⟩ ?_ ?_
     all_goals simp only [puts, List.foldl_cons, List.foldl_nil, List.set_cons_zero, List.set_cons_succ]
     · refine Le.wdrop 2 (Nat.le_of_ble_eq_true rfl) (by simp [subT, hBC, intsC]) (by simp [hBC, intsC]) (by simp [V.bnds, V.bnd]) (by simp [O.bnd, V.bnds, V.bnd, hBC, intsC])
     · rintro ⟨j, hj⟩
       by_cases hlj : j < kids.length
       · obtain ⟨c, hcc⟩ : ∃ c, kids[j] = c := ⟨_, rfl⟩
         have ihc := ih c (hcc ▸ List.getElem_mem hlj)
         have hrl : c.row.length = 11 := by cases c; rfl
         have hw : IntKind.i64.wrap ((j : Int) + 1) = ((j + 1 : Nat) : Int) := by rw [wrap_i64 (by omega) (by omega)]; simp
         obtain ⟨ck, cn, cs, cw, ch, cd, cx, cy, ckids, co, csrc⟩ := c
         simp only [boxV, Box.row, List.map_cons, List.map_nil] at ihc
         refine go (cj @hBC <| cj @hlj <| cj @hcc <| @Box.row.eq_1) ?_
         refine gc0 (ihc) Try.func29 ?_
         refine go (cj @hBC <| @hw) ?_
         refine ⟨⟨j + 1, by omega⟩, by simp only; omega, ?_⟩
         refine Le.wdrop 2 (Nat.le_of_ble_eq_true rfl) (by simp [subT, hBC, intsC]) (by simp [hBC, intsC]) (by simp [V.bnds, V.bnd]) (by simp [O.bnd, V.bnds, V.bnd, hBC, intsC])
       · refine go (cj @hBC <| @hlj) ?_
         simp [aRet, ares, aresL, ares1, V.pub, V.pubs, ldV, Try.results29]
theorem rsame_n : ∀ (n : Nat) (b : Box), SizeOf.sizeOf b < n → b.fit → AC Try.prog 29 [boxV b, boxV b] (.c (.bool true))
 | 0, b, h, _ => absurd h (by omega)
 | n + 1, ⟨bk, bn, bs, bw, bh, bd, bx, by_, kids, bo, src⟩, hn, hfit => by
   simp only [Box.fit] at hfit
   obtain ⟨f1, f2, f3⟩ := hfit
   exact rsame_step bk bn bs bw bh bd bx by_ kids bo src f1 f2 fun c hc => rsame_n n c (by
    have := List.sizeOf_lt_of_mem hc
    simp only [Box.mk.sizeOf_spec] at hn
    omega) (Box.fits_get f3 c hc)
theorem rsame_a (b : Box) (h : b.fit) : AC Try.prog 29 [boxV b, boxV b] (.c (.bool true)) := rsame_n (SizeOf.sizeOf b + 1) b (by omega) h
end Go.Proofs.Ythbcljjpmdfflaa
