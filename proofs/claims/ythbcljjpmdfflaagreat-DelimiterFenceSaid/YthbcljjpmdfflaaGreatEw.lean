/-
 The reference's Row and Fence of layers 29, 31. (For the seat of DelimiterFence.)
-/
import Derived.Test.YthbcljjpmdfflaaGreatEt
import Derived.Test.YthbcljjpmdfflaaGreatEv
namespace Go.Proofs.YthbcljjpmdfflaaGreat
open Go.RowKit
set_option linter.unusedSimpArgs false
set_option linter.unusedVariables false
set_option maxRecDepth 100000
def swF : List Int → Int → Int
 | [], w => w
 | s :: l, w => swF l (w + s)
theorem swF_take : ∀ (l : List Int) (k : Nat) (b : Int) (w : Int), l[k]? = some b → swF (l.take (k + 1)) w = swF (l.take k) w + b
 | [], _, _, _, h => by simp at h
 | x :: l, 0, b, w, h => by simp at h; subst h; rfl
 | x :: l, k + 1, b, w, h => by simp only [List.take_succ_cons, swF]; exact swF_take l k b _ (by simpa using h)
theorem swF_add : ∀ (l : List Int) (w : Int), swF l w = w + swF l 0
 | [], w => by simp [swF]
 | s :: l, w => by simp only [swF]; rw [swF_add l (w + s), swF_add l (0 + s)]; omega
theorem widF_add : ∀ (l : List Box) (w : Int), widF l w = w + widF l 0
 | [], w => by simp [widF]
 | b :: l, w => by simp only [widF]; rw [widF_add l (w + b.w), widF_add l (0 + b.w)]; omega
theorem endX_sum : ∀ (l : List Box) (t : List Int) (e : Int), t.length = l.length → endX l t e = e + widF l 0 + swF t 0
 | [], [], e, _ => by simp [endX, widF, swF]
 | b :: l, s :: t, e, h => by
   simp only [endX, widF, swF]
   rw [endX_sum l t _ (by simpa using h), widF_add l (0 + b.w), swF_add t (0 + s)]; omega
 | [], _ :: _, _, h => by simp at h
 | _ :: _, [], _, h => by simp at h
theorem widF_b : ∀ (l : List Box) (w : Int), (∀ b ∈ l, b.validB = true) → w - (l.length : Int) * 1073741824 ≤ widF l w ∧ widF l w ≤ w + (l.length : Int) * 1073741824
 | [], w, _ => by simp [widF]
 | b :: l, w, h => by
   obtain ⟨bw, _⟩ := valid_len (h b List.mem_cons_self)
   have := widF_b l (w + b.w) fun c hc => h c (List.mem_cons_of_mem _ hc)
   simp only [widF, List.length_cons]
   omega
set_option maxHeartbeats 3200000 in
theorem r29row_a (kids : List Box) (sp : List Int) (ho : Box.okks kids) (hc : Box.cnts kids ≤ 900000) (hk9 : kids.length ≤ 10000) (hs9 : sp.length ≤ 10000) : AC Tryz.prog 27 [.c (.sl (Box.rows kids)), .c (intsC sp)] (boxEV (rowR kids sp)) := by
 have hval := r29valid_a kids ho (by omega)
 obtain ⟨rs, hrs⟩ : ∃ rs, Box.rows kids = rs := ⟨_, rfl⟩
 have hrl : rs.length = kids.length := by rw [← hrs, rows_map]; simp
 obtain ⟨ps, hps⟩ : ∃ ps, sp.map (fun n => [C.int .i64 n]) = ps := ⟨_, rfl⟩
 have hpl : ps.length = sp.length := by rw [← hps, List.length_map]
 have hia : intsC sp = .sl ps := by rw [← hps]; rfl
 rw [hrs] at hval
 unfold rowR
 rw [hrs, hia]
 refine en Tryz.func27 Tryz.ntmps27 ?_
 have ff := (cj @hrl <| cj @hpl <| cj @boxEV.eq_1 <| cj @boxV_vs <| cj @errV.eq_1 <| cj @zero_vs <| Tryz.results27)
 repeat any_goals (first | refine stW ?_ | exact lfW ff | refine ruW ff ?_ | refine caW ff (hval) ?_ | refine cdW ff ?_ | ((first | refine bdW ff ?_ ?_ | refine bxW ff ?_ ?_ | refine bnW ff ?_ ?_ | refine brW ff ?_ ?_) <;> intro h <;> try (exfalso; omega)))
 have hvk : kids.all Box.validB = true := ‹_›
 have hva := all_valid hvk
 rw [if_neg (by simp [hvk])]
 have hwd := r29width_a kids hva (by omega)
 have hwb := widF_b kids 0 hva
 rw [hrs] at hwd
 obtain ⟨RES, hRES⟩ : ∃ r, (if sp.length ≠ kids.length ∨ sp.all lenValid = false then (Box.zero, 2) else lstR kids (pls kids sp 0) (endX kids sp 0)) = r := ⟨_, rfl⟩
 rw [hRES]
 obtain ⟨W, hW⟩ : ∃ W, widF kids 0 = W := ⟨_, rfl⟩
 rw [hW] at hwd hwb
 have ff := (cj @hrl <| cj @hpl <| Tryz.results27)
 repeat any_goals (first | refine stW ?_ | exact lfW ff | refine ruW ff ?_ | refine caW ff (hwd) ?_ | refine cdW ff ?_ | ((first | refine bdW ff ?_ ?_ | refine bxW ff ?_ ?_ | refine bnW ff ?_ ?_ | refine brW ff ?_ ?_) <;> intro h <;> try (exfalso; omega)))
 refine lp (ι := { k : Nat // k ≤ sp.length ∧ sp.all lenValid = (sp.drop k).all lenValid ∧ W - (k : Int) * 1073741824 ≤ swF (sp.take k) W ∧ swF (sp.take k) W ≤ W + (k : Int) * 1073741824 }) (fun k => [(5, .c (.int .i64 0)), (6, .c (.int .i64 (swF (sp.take k.1) W))), (7, .c (.int .i64 (k.1 : Int)))]) (fun k => [.box 33 zboxC false]) (fun k => sp.length - k.1) ⟨0, by simp [swF]⟩ ?_ ?_
 all_goals simp only [puts, List.foldl_cons, List.foldl_nil, List.set_cons_zero, List.set_cons_succ]
 · refine Le.weak (by simp [subT, swF, zboxC])
 · rintro ⟨k, hk, hI, b1, b2⟩
   simp only
   by_cases hlt : k < sp.length
   · obtain ⟨s, hss⟩ : ∃ s, sp[k] = s := ⟨_, rfl⟩
     have hgs : sp[k]? = some s := by rw [List.getElem?_eq_getElem hlt, hss]
     rw [List.drop_eq_getElem_cons hlt, hss, List.all_cons] at hI
     have hltp : k < ps.length := by omega
     have hpk : ps[k]? = some [.int .i64 s] := by rw [← hps, List.getElem?_map, hgs]; rfl
     have hpk' := gx hpk
     have hlv := rlen_a s
     have hw := swF_take sp k s W hgs
     obtain ⟨E, hE⟩ : ∃ E, swF (sp.take k) W = E := ⟨_, rfl⟩
     rw [hE] at b1 b2 hw ⊢
     cases hs : lenValid s with
     | false =>
       have e : RES = (Box.zero, 2) := by rw [← hRES, if_pos (.inr (by rw [hI, hs]; rfl))]
       rw [e]
       rw [hs] at hlv
       have ff := (cj @hrl <| cj @hpl <| cj @hlt <| cj @hltp <| cj @hpk <| cj @hpk' <| cj @boxEV.eq_1 <| cj @boxV_vs <| cj @errV.eq_1 <| cj @zero_vs <| cj @zboxC.eq_1 <| Tryz.results27)
       repeat any_goals (first | refine stW ?_ | exact lfW ff | refine ruW ff ?_ | refine caW ff (hlv) ?_ | refine cdW ff ?_ | ((first | refine bdW ff ?_ ?_ | refine bxW ff ?_ ?_ | refine bnW ff ?_ ?_ | refine brW ff ?_ ?_) <;> intro h <;> try (exfalso; omega)))
     | true =>
       rw [hs] at hlv
       rw [hs, Bool.true_and] at hI
       simp [lenValid] at hs
       have w1 : IntKind.i64.wrap (E + s) = swF (sp.take (k + 1)) W := by rw [hw]; exact wrap_i64 (by omega) (by omega)
       have ff := (cj @hrl <| cj @hpl <| cj @hlt <| cj @hltp <| cj @hpk <| cj @hpk' <| cj @w1 <| Tryz.results27)
       repeat any_goals (first | refine stW ?_ | exact lfW ff | refine ruW ff ?_ | refine caW ff (hlv) ?_ | refine cdW ff ?_ | ((first | refine bdW ff ?_ ?_ | refine bxW ff ?_ ?_ | refine bnW ff ?_ ?_ | refine brW ff ?_ ?_) <;> intro h <;> try (exfalso; omega)))
       exact ⟨⟨k + 1, by omega, hI, by rw [hw]; omega, by rw [hw]; omega⟩, by simp only; omega, wd 1⟩
   · have e1 : sp.take k = sp := List.take_of_length_le (by omega)
     rw [List.drop_of_length_le (by omega), List.all_nil] at hI
     rw [e1]
     by_cases hl : sp.length = kids.length
     · have hend : swF sp W = endX kids sp 0 := by rw [endX_sum kids sp 0 hl, swF_add, hW]; omega
       have e : RES = lstR kids (pls kids sp 0) (endX kids sp 0) := by rw [← hRES, if_neg (by simp [hI, hl])]
       have hp := r29place_a kids sp (endX kids sp 0) hva (fun s hs => List.all_eq_true.1 hI s hs) ho hl hc hk9
       have hli : (sp.length : Int) = (kids.length : Int) := by omega
       rw [hrs, hia] at hp
       rw [e, hend]
       obtain ⟨Y, hY⟩ : ∃ Y, lstR kids (pls kids sp 0) (endX kids sp 0) = Y := ⟨_, rfl⟩
       rw [hY] at hp ⊢
       simp only [boxEV, boxV_vs, errV] at hp ⊢
       have ff := (cj @hrl <| cj @hpl <| cj @hlt <| cj @hli <| cj @zboxC.eq_1 <| Tryz.results27)
       repeat any_goals (first | refine stW ?_ | exact lfW ff | refine ruW ff ?_ | refine caW ff (hp) ?_ | refine cdW ff ?_ | ((first | refine bdW ff ?_ ?_ | refine bxW ff ?_ ?_ | refine bnW ff ?_ ?_ | refine brW ff ?_ ?_) <;> intro h <;> try (exfalso; omega)))
     · have e : RES = (Box.zero, 2) := by rw [← hRES, if_pos (.inl hl)]
       have hli : ¬ (sp.length : Int) = (kids.length : Int) := by omega
       rw [e]
       have ff := (cj @hrl <| cj @hpl <| cj @hlt <| cj @hli <| cj @boxEV.eq_1 <| cj @boxV_vs <| cj @errV.eq_1 <| cj @zero_vs <| cj @zboxC.eq_1 <| Tryz.results27)
       repeat any_goals (first | refine stW ?_ | exact lfW ff | refine ruW ff ?_ | refine cdW ff ?_ | ((first | refine bdW ff ?_ ?_ | refine bxW ff ?_ ?_ | refine bnW ff ?_ ?_ | refine brW ff ?_ ?_) <;> intro h <;> try (exfalso; omega)))
theorem at_valid2 {b : Box} (h : b.validB = true) (x y : Int) : (b.at_ x y).validB = (lenValid x && lenValid y) := by
 obtain ⟨bk, bn, bs, bw, bh, bd, bx, by_, bkids, bo, bsrc⟩ := b
 simp only [Box.validB, Bool.and_eq_true, decide_eq_true_eq] at h
 obtain ⟨h1, h2, h3⟩ := h
 simp only [Box.propB, Box.ownB, Box.lens, Bool.and_eq_true, List.all_cons, List.all_nil] at h1
 obtain ⟨⟨⟨l1, l2, l3, l4, l5, _⟩, k1, k2⟩, h4⟩ := h1
 have k1' : Box.kindB ⟨bk, bn, bs, bw, bh, bd, x, y, bkids, bo, bsrc⟩ = true := k1
 have k2' : Box.srcB ⟨bk, bn, bs, bw, bh, bd, x, y, bkids, bo, bsrc⟩ = true := k2
 have h2' : Box.cnt ⟨bk, bn, bs, bw, bh, bd, x, y, bkids, bo, bsrc⟩ ≤ 20000 := h2
 have h3' : Box.nest ⟨bk, bn, bs, bw, bh, bd, x, y, bkids, bo, bsrc⟩ ≤ 100 := h3
 have ho : Box.ownB ⟨bk, bn, bs, bw, bh, bd, x, y, bkids, bo, bsrc⟩ = (lenValid x && lenValid y) := by
  unfold Box.ownB
  rw [k1', k2']
  simp only [Box.lens, List.all_cons, List.all_nil, l1, l2, l3, Bool.true_and, Bool.and_true]
 have hp : Box.propB ⟨bk, bn, bs, bw, bh, bd, x, y, bkids, bo, bsrc⟩ = (lenValid x && lenValid y) := by
  show (Box.ownB ⟨bk, bn, bs, bw, bh, bd, x, y, bkids, bo, bsrc⟩ && Box.propsB bkids) = _
  rw [ho, h4, Bool.and_true]
 show (Box.propB ⟨bk, bn, bs, bw, bh, bd, x, y, bkids, bo, bsrc⟩ && (decide (Box.cnt ⟨bk, bn, bs, bw, bh, bd, x, y, bkids, bo, bsrc⟩ ≤ 20000) && decide (Box.nest ⟨bk, bn, bs, bw, bh, bd, x, y, bkids, bo, bsrc⟩ ≤ 100))) = _
 rw [hp, decide_eq_true h2', decide_eq_true h3', Bool.and_self, Bool.and_true]
theorem row_body {b : Box} (hb : b.validB = true) (L R : Box) : rowR [L, b.at_ b.x 0, R] [0, 0, 0] = rowR [L, b.at_ 0 0, R] [0, 0, 0] := by
 obtain ⟨x1, _⟩ := valid_xy hb
 have e0 : lenValid 0 = true := lenV (by omega) (by omega)
 have e1 : (b.at_ b.x 0).validB = true := by rw [at_valid2 hb, lenV x1.1 x1.2, e0]; rfl
 have e2 : (b.at_ 0 0).validB = true := by rw [at_valid2 hb, e0]; rfl
 have q1 : ([L, b.at_ b.x 0, R].all Box.validB) = ([L, b.at_ 0 0, R].all Box.validB) := by simp only [List.all_cons, e1, e2]
 have q2 : ([0, 0, 0] : List Int).length ≠ [L, b.at_ b.x 0, R].length ↔ ([0, 0, 0] : List Int).length ≠ [L, b.at_ 0 0, R].length := Iff.rfl
 have q3 : lstR [L, b.at_ b.x 0, R] (pls [L, b.at_ b.x 0, R] [0, 0, 0] 0) (endX [L, b.at_ b.x 0, R] [0, 0, 0] 0) = lstR [L, b.at_ 0 0, R] (pls [L, b.at_ 0 0, R] [0, 0, 0] 0) (endX [L, b.at_ 0 0, R] [0, 0, 0] 0) := rfl
 unfold rowR
 rw [q1, q3]
 rfl
set_option maxHeartbeats 6400000 in
theorem rfence_a (f : Font) (names : ByteArray) (b : Box) (p : Int) (hf : f.Fit) (hz : ∀ s ∈ f.stretches, s.sizes.length ≤ 1000) (ho : b.okk) (hc : b.cnt ≤ 800000) (hn : names.size ≤ maxLen) : AC Tryz.prog 8 [.agg f.vs, .c (.str names), boxV b, .c (.int .i64 p)] (boxEV (fenceR f names b p)) := by
 have hfv := rvalid_a f hf
 have hbv := rbvalid_a b ho (by omega)
 have hpr := names_a names hn
 have hne := rneed31_a f b p hf ho (by omega)
 obtain ⟨N, hN⟩ : ∃ N, dlNeed f b p = N := ⟨_, rfl⟩
 unfold fenceR
 rw [hN] at hne ⊢
 simp only [boxEV, boxV_vs, errV] at hbv hne ⊢
 refine en Tryz.func8 Tryz.ntmps8 ?_
 have ff := (cj @boxEV.eq_1 <| cj @boxV_vs <| cj @errV.eq_1 <| cj @zero_vs <| Tryz.results8)
 repeat any_goals (first | refine stN (RegN.mk 6) ?_ | exact lfW ff | refine ruW ff ?_ | refine caW ff (hfv) ?_ | refine caW ff (hbv) ?_ | refine caW ff (hpr) ?_ | refine caW ff (hne) ?_ | refine cdW ff ?_ | ((first | refine bdW ff ?_ ?_ | refine bxW ff ?_ ?_ | refine bnW ff ?_ ?_ | refine brW ff ?_ ?_) <;> intro h <;> try (exfalso; omega)))
 have hv : f.valid = true := ‹_›
 have hbo : b.validB = true := ‹_›
 have hpn : pairB names = true := ‹_›
 have p1 : 1 ≤ p := by omega
 have p2 : p ≤ 100 := by omega
 rw [if_neg (by simp [hv, hbo, hpn]), if_neg (by omega)]
 obtain ⟨L, hL, l1, l2⟩ := dlMake_sum hv p1 p2 (pair_name hpn 0 (by omega)) N
 obtain ⟨R, hR, r1, r2⟩ := dlMake_sum hv p1 p2 (pair_name hpn 1 (by omega)) N
 have hs2 := pair_size hpn
 have hs0 := rmk31_a f (sideN names 0) N p hf (by unfold sideN; rw [ByteArray.size_extract, hs2]; unfold maxLen; omega) hz
 have hs1 := rmk31_a f (sideN names 1) N p hf (by unfold sideN; rw [ByteArray.size_extract, hs2]; unfold maxLen; omega) hz
 have hrow := r29row_a [L, b.at_ b.x 0, R] [0, 0, 0] ⟨l1, at_okk _ _ ho, r1, trivial⟩ (by simp only [Box.cnts, at_cnt]; omega) (by simp) (by simp)
 rw [row_body hbo] at hrow
 rw [hL] at hs0 ⊢
 rw [hR] at hs1 ⊢
 obtain ⟨Y, hY⟩ : ∃ Y, rowR [L, b.at_ 0 0, R] [0, 0, 0] = Y := ⟨_, rfl⟩
 simp only [hY] at hrow ⊢
 obtain ⟨A, hA⟩ : ∃ A, b.at_ b.x 0 = A := ⟨_, rfl⟩
 rw [hA] at hrow
 unfold sideN at hs0 hs1
 simp only [boxEV, boxV_vs, errV, Box.rows, intsC, List.map_cons, List.map_nil, Nat.zero_add, Nat.reduceAdd] at hs0 hs1 hrow ⊢
 have ff := (cj @hs2 <| cj @hA <| Tryz.results8)
 repeat any_goals (first | refine stW ?_ | exact lfW ff | refine ruW ff ?_ | refine caW ff (hs0) ?_ | refine caW ff (hs1) ?_ | refine caW ff (hrow) ?_ | refine cdW ff ?_ | ((first | refine bdW ff ?_ ?_ | refine bxW ff ?_ ?_ | refine bnW ff ?_ ?_ | refine brW ff ?_ ?_) <;> intro h <;> try (exfalso; omega)))
end Go.Proofs.YthbcljjpmdfflaaGreat
