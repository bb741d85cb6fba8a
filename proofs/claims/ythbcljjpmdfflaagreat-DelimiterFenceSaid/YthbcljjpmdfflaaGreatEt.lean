/-
 The references 29, 31 on the abstract machine: Row, Fence. (For the seat of DelimiterFence.)
-/
import Derived.Test.YthbcljjpmdfflaaGreatEl
namespace Go.Proofs.YthbcljjpmdfflaaGreat
open Go.RowKit
set_option linter.unusedSimpArgs false
set_option linter.unusedVariables false
set_option maxRecDepth 100000
set_option maxHeartbeats 1600000 in
theorem r29valid_a (kids : List Box) (ho : Box.okks kids) (hc : Box.cnts kids ≤ 1000000) : AC Tryz.prog 59 [.c (.sl (Box.rows kids))] (.c (.bool (kids.all Box.validB))) := by
 obtain ⟨rs, hrs⟩ : ∃ rs, Box.rows kids = rs := ⟨_, rfl⟩
 have hrl : rs.length = kids.length := by rw [← hrs, rows_map]; simp
 have hkl := cnts_len kids
 rw [hrs]
 refine en Tryz.func59 Tryz.ntmps59 ?_
 have ff := (cj @hrl <| Tryz.results59)
 repeat any_goals (first | refine stW ?_ | exact lfW ff | refine ruW ff ?_ | refine cdW ff ?_ | ((first | refine bdW ff ?_ ?_ | refine bxW ff ?_ ?_ | refine bnW ff ?_ ?_ | refine brW ff ?_ ?_) <;> intro h <;> try (exfalso; omega)))
 refine lp (ι := { k : Nat // k ≤ kids.length ∧ kids.all Box.validB = (kids.drop k).all Box.validB }) (fun k => [(2, .c (.bool false)), (3, .c (.int .i64 (k.1 : Int)))]) (fun _ => []) (fun k => kids.length - k.1) ⟨0, by simp⟩ ?_ ?_
 all_goals simp only [puts, List.foldl_cons, List.foldl_nil, List.set_cons_zero, List.set_cons_succ]
 · refine Le.weak (by simp [subT])
 · rintro ⟨k, hk, hI⟩
   simp only
   by_cases hlt : k < kids.length
   · obtain ⟨c, hcc⟩ : ∃ c, kids[k] = c := ⟨_, rfl⟩
     have hgc : kids[k]? = some c := by rw [List.getElem?_eq_getElem hlt, hcc]
     rw [List.drop_eq_getElem_cons hlt, hcc, List.all_cons] at hI
     have hrk : rs[k]? = some c.row := by rw [← hrs, rows_map, List.getElem?_map, hgc]; rfl
     have hltr : k < rs.length := by omega
     have hrk' := gx hrk
     have hcn := cnts_get kids k c hgc
     have hv := rbvalid_a c (okks_mem ho c (List.mem_of_getElem? hgc)) (by omega)
     rw [boxV_vs] at hv
     have ff := (cj @hrl <| cj @hlt <| cj @hltr <| cj @hrk <| cj @hrk' <| Tryz.results59)
     repeat any_goals (first | refine stW ?_ | exact lfW ff | refine ruW ff ?_ | refine caW ff (hv) ?_ | refine cdW ff ?_ | ((first | refine bdW ff ?_ ?_ | refine bxW ff ?_ ?_ | refine bnW ff ?_ ?_ | refine brW ff ?_ ?_) <;> intro h <;> try (exfalso; omega)))
     all_goals exact ⟨⟨k + 1, by omega, by rw [hI, h, Bool.true_and]⟩, by simp only; omega, wd 0⟩
   · rw [List.drop_of_length_le (by omega), List.all_nil] at hI
     have ff := (cj @hrl <| cj @hlt <| Tryz.results59)
     repeat any_goals (first | refine stW ?_ | exact lfW ff | refine ruW ff ?_ | refine cdW ff ?_ | ((first | refine bdW ff ?_ ?_ | refine bxW ff ?_ ?_ | refine bnW ff ?_ ?_ | refine brW ff ?_ ?_) <;> intro h <;> try (exfalso; omega)))
def widF : List Box → Int → Int
 | [], w => w
 | b :: l, w => widF l (w + b.w)
theorem widF_take : ∀ (l : List Box) (k : Nat) (b : Box) (w : Int), l[k]? = some b → widF (l.take (k + 1)) w = widF (l.take k) w + b.w
 | [], _, _, _, h => by simp at h
 | x :: l, 0, b, w, h => by simp at h; subst h; rfl
 | x :: l, k + 1, b, w, h => by simp only [List.take_succ_cons, widF]; exact widF_take l k b _ (by simpa using h)
set_option maxHeartbeats 1600000 in
theorem r29width_a (kids : List Box) (hv : ∀ b ∈ kids, b.validB = true) (hk9 : kids.length ≤ 1000000) : AC Tryz.prog 60 [.c (.sl (Box.rows kids))] (.c (.int .i64 (widF kids 0))) := by
 obtain ⟨rs, hrs⟩ : ∃ rs, Box.rows kids = rs := ⟨_, rfl⟩
 have hrl : rs.length = kids.length := by rw [← hrs, rows_map]; simp
 rw [hrs]
 refine en Tryz.func60 Tryz.ntmps60 ?_
 have ff := (cj @hrl <| Tryz.results60)
 repeat any_goals (first | refine stW ?_ | exact lfW ff | refine ruW ff ?_ | refine cdW ff ?_ | ((first | refine bdW ff ?_ ?_ | refine bxW ff ?_ ?_ | refine bnW ff ?_ ?_ | refine brW ff ?_ ?_) <;> intro h <;> try (exfalso; omega)))
 refine lp (ι := { k : Nat // k ≤ kids.length ∧ -(k : Int) * 1073741824 ≤ widF (kids.take k) 0 ∧ widF (kids.take k) 0 ≤ (k : Int) * 1073741824 }) (fun k => [(2, .c (.int .i64 0)), (3, .c (.int .i64 (widF (kids.take k.1) 0))), (4, .c (.int .i64 (k.1 : Int)))]) (fun _ => []) (fun k => kids.length - k.1) ⟨0, by simp [widF]⟩ ?_ ?_
 all_goals simp only [puts, List.foldl_cons, List.foldl_nil, List.set_cons_zero, List.set_cons_succ]
 · refine Le.weak (by simp [subT, widF])
 · rintro ⟨k, hk, b1, b2⟩
   simp only
   by_cases hlt : k < kids.length
   · obtain ⟨c, hcc⟩ : ∃ c, kids[k] = c := ⟨_, rfl⟩
     have hgc : kids[k]? = some c := by rw [List.getElem?_eq_getElem hlt, hcc]
     have hrk : rs[k]? = some c.row := by rw [← hrs, rows_map, List.getElem?_map, hgc]; rfl
     have hltr : k < rs.length := by omega
     have hrk' := gx hrk
     have hw := widF_take kids k c 0 hgc
     obtain ⟨cw, _⟩ := valid_len (hv c (List.mem_of_getElem? hgc))
     obtain ⟨E, hE⟩ : ∃ E, widF (kids.take k) 0 = E := ⟨_, rfl⟩
     rw [hE] at b1 b2 hw ⊢
     have ff := (cj @hrl <| cj @hlt <| cj @hltr <| cj @hrk <| cj @hrk' <| cj @hw.symm <| Tryz.results60)
     repeat any_goals (first | refine stW ?_ | exact lfW ff | refine ruW ff ?_ | refine cdW ff ?_ | ((first | refine bdW ff ?_ ?_ | refine bxW ff ?_ ?_ | refine bnW ff ?_ ?_ | refine brW ff ?_ ?_) <;> intro h <;> try (exfalso; omega)))
     exact ⟨⟨k + 1, by omega, by rw [hw]; omega, by rw [hw]; omega⟩, by simp only; omega, wd 0⟩
   · have e1 : kids.take k = kids := List.take_of_length_le (by omega)
     rw [e1]
     have ff := (cj @hrl <| cj @hlt <| Tryz.results60)
     repeat any_goals (first | refine stW ?_ | exact lfW ff | refine ruW ff ?_ | refine cdW ff ?_ | ((first | refine bdW ff ?_ ?_ | refine bxW ff ?_ ?_ | refine bnW ff ?_ ?_ | refine brW ff ?_ ?_) <;> intro h <;> try (exfalso; omega)))
@[simp] theorem Box.vs_setx (b : Box) (x : Int) : b.vs.set 6 (.c (.int .i64 x)) = (b.at_ x b.y).vs := by cases b; rfl
theorem plc_snoc : ∀ {a : List Box} {p : List Int} (b : Box) (x : Int), a.length = p.length → plc (a ++ [b]) (p ++ [x]) = plc a p ++ [b.at_ x b.y]
 | [], [], b, x, _ => rfl
 | c :: a, q :: p, b, x, h => by simp only [List.cons_append, plc]; rw [plc_snoc b x (by simpa using h)]
 | [], _ :: _, _, _, h => by simp at h
 | _ :: _, [], _, _, h => by simp at h
def outC (w h d : Int) (kids : V) : List V := [.c (.int .i64 3), .c (.str ⟨#[]⟩), .c (.int .i64 0), .c (.int .i64 w), .c (.int .i64 h), .c (.int .i64 d), .c (.int .i64 0), .c (.int .i64 0), kids, .c (.int .i64 0), .full []]
set_option maxHeartbeats 6400000 in
theorem r29place_a (kids : List Box) (sp : List Int) (w : Int) (hv : ∀ b ∈ kids, b.validB = true) (hs : ∀ s ∈ sp, lenValid s = true) (ho : Box.okks kids) (hl : sp.length = kids.length) (hc : Box.cnts kids ≤ 900000) (hk9 : kids.length ≤ 10000) : AC Tryz.prog 62 [.c (.sl (Box.rows kids)), .c (intsC sp), .c (.int .i64 w)] (boxEV (lstR kids (pls kids sp 0) w)) := by
 obtain ⟨rs, hrs⟩ : ∃ rs, Box.rows kids = rs := ⟨_, rfl⟩
 have hrl : rs.length = kids.length := by rw [← hrs, rows_map]; simp
 obtain ⟨ps, hps⟩ : ∃ ps, sp.map (fun n => [C.int .i64 n]) = ps := ⟨_, rfl⟩
 have hpl : ps.length = kids.length := by rw [← hps, List.length_map, hl]
 have hia : intsC sp = .sl ps := by rw [← hps]; rfl
 have hpn0 := pls_len 0 hl
 have hbv := rbvalid_a (lst29 kids (pls kids sp 0) w) (show Box.okk (listB _ _ _ _) from ⟨(Nat.zero_le _ : 0 ≤ maxLen), (Nat.zero_le _ : 0 ≤ maxLen), plc_okks ho⟩) (by show Box.cnt (listB _ _ _ _) ≤ _; simp only [listB, Box.cnt, plc_cnts hpn0]; omega)
 rw [hrs, hia]
 refine en Tryz.func62 Tryz.ntmps62 ?_
 have ff := (cj @hrl <| cj @hpl <| Tryz.results62)
 repeat any_goals (first | refine stW ?_ | exact lfW ff | refine ruW ff ?_ | refine cdW ff ?_ | ((first | refine bdW ff ?_ ?_ | refine bxW ff ?_ ?_ | refine bnW ff ?_ ?_ | refine brW ff ?_ ?_) <;> intro h <;> try (exfalso; omega)))
 refine AW.le (Le.tokCell 1 8 33 11 rfl rfl) ?_
 simp only [List.length_cons, List.length_nil, Nat.reduceAdd, List.set_cons_zero, List.set_cons_succ, List.cons_append, List.nil_append]
 refine lp (ι := { k : Nat // k ≤ kids.length ∧ topF (kids.take k) 0 ≤ 3000000000 ∧ 0 ≤ topF (kids.take k) 0 ∧ botF (kids.take k) 0 ≤ 3000000000 ∧ 0 ≤ botF (kids.take k) 0 ∧ -(k : Int) * 2147483648 ≤ endX (kids.take k) (sp.take k) 0 ∧ endX (kids.take k) (sp.take k) 0 ≤ (k : Int) * 2147483648 }) (fun k => [(9, .c (.int .i64 (endX (kids.take k.1) (sp.take k.1) 0))), (10, .c (.int .i64 (k.1 : Int)))]) (fun k => [.box 33 zboxC false, .box 33 (outC w (topF (kids.take k.1) 0) (botF (kids.take k.1) 0) (.gr 2 11 (Box.rows (plc (kids.take k.1) (pls (kids.take k.1) (sp.take k.1) 0))))) false, .tok 33 11 k.1]) (fun k => kids.length - k.1) ⟨0, by simp [topF, botF, endX]⟩ ?_ ?_
 all_goals simp only [puts, List.foldl_cons, List.foldl_nil, List.set_cons_zero, List.set_cons_succ]
 · refine Le.weak (by simp [subT, topF, botF, endX, zboxC, outC, plc, pls, Box.rows])
 · rintro ⟨k, hk, t1, t2, b1, b2, e1, e2⟩
   simp only
   by_cases hlt : k < kids.length
   · obtain ⟨c, hcc⟩ : ∃ c, kids[k] = c := ⟨_, rfl⟩
     have hgc : kids[k]? = some c := by rw [List.getElem?_eq_getElem hlt, hcc]
     have hlts : k < sp.length := by omega
     obtain ⟨s, hss⟩ : ∃ s, sp[k] = s := ⟨_, rfl⟩
     have hgs : sp[k]? = some s := by rw [List.getElem?_eq_getElem hlts, hss]
     have hrk : rs[k]? = some c.row := by rw [← hrs, rows_map, List.getElem?_map, hgc]; rfl
     have hltr : k < rs.length := by omega
     have hltp : k < ps.length := by omega
     have hrk' := gx hrk
     have hpk : ps[k]? = some [.int .i64 s] := by rw [← hps, List.getElem?_map, hgs]; rfl
     have hpk' := gx hpk
     have hcv := hv c (List.mem_of_getElem? hgc)
     obtain ⟨cw, ch, cd, _⟩ := valid_len hcv
     obtain ⟨cx, cy⟩ := valid_xy hcv
     have hsv := hs s (List.mem_of_getElem? hgs)
     simp [lenValid] at hsv
     have hE := endX_take 0 hgc hgs
     have hpt := pls_take 0 hgc hgs
     have ht1 := topF_take kids k c 0 hgc
     have hb1 := botF_take kids k c 0 hgc
     have htk : kids.take (k + 1) = kids.take k ++ [c] := by rw [List.take_add_one, hgc]; rfl
     have hpn : (pls (kids.take k) (sp.take k) 0).length = k := by rw [pls_len _ (by simp [hl]), List.length_take]; omega
     have hpc := plc_snoc c (endX (kids.take k) (sp.take k) 0 + s) (show (kids.take k).length = (pls (kids.take k) (sp.take k) 0).length by rw [hpn, List.length_take]; omega)
     rw [← htk, ← hpt] at hpc
     have hrr : Box.rows (plc (kids.take (k + 1)) (pls (kids.take (k + 1)) (sp.take (k + 1)) 0)) = Box.rows (plc (kids.take k) (pls (kids.take k) (sp.take k) 0)) ++ [(c.at_ (endX (kids.take k) (sp.take k) 0 + s) c.y).row] := by rw [hpc, rows_map, rows_map, List.map_append]; rfl
     have hRl : (Box.rows (plc (kids.take k) (pls (kids.take k) (sp.take k) 0))).length = k := by rw [rows_map, List.length_map, plc_len (by rw [hpn, List.length_take]; omega), List.length_take]; omega
     obtain ⟨RR, hRR⟩ : ∃ R, Box.rows (plc (kids.take k) (pls (kids.take k) (sp.take k) 0)) = R := ⟨_, rfl⟩
     rw [hRR] at hrr hRl ⊢
     obtain ⟨E, hEE⟩ : ∃ E, endX (kids.take k) (sp.take k) 0 = E := ⟨_, rfl⟩
     rw [hEE] at hE hrr e1 e2 ⊢
     obtain ⟨T, hT⟩ : ∃ T, topF (kids.take k) 0 = T := ⟨_, rfl⟩
     obtain ⟨D, hD⟩ : ∃ D, botF (kids.take k) 0 = D := ⟨_, rfl⟩
     rw [hT] at ht1 t1 t2 ⊢
     rw [hD] at hb1 b1 b2 ⊢
     have hm1 : (if T < c.y + c.h then c.y + c.h else T) = topF (kids.take (k + 1)) 0 := ht1.symm
     have hm2 : (if D < c.d - c.y then c.d - c.y else D) = botF (kids.take (k + 1)) 0 := hb1.symm
     have hl1 : k + 1 ≤ maxLen := by unfold maxLen; omega
     have hl2 : (k + 1) * 128 ≤ 140737488355328 := by omega
     have hall : (RR.all fun r => r.length == 11) = true := by rw [← hRR]; rw [List.all_eq_true]; intro r hr; simpa using rows_len' _ r hr
     have w1 : IntKind.i64.wrap (E + s) = E + s := wrap_i64 (by omega) (by omega)
     have w2 : IntKind.i64.wrap (E + s + c.w) = endX (kids.take (k + 1)) (sp.take (k + 1)) 0 := by rw [hE]; exact wrap_i64 (by omega) (by omega)
     have w3 : IntKind.i64.wrap (c.y + c.h) = c.y + c.h := wrap_i64 (by omega) (by omega)
     have w4 : IntKind.i64.wrap (c.d - c.y) = c.d - c.y := wrap_i64 (by omega) (by omega)
     clear hm1 hm2
     have hm1 : (if T < c.y + c.h then c.y + c.h else T) = topF (kids.take (k + 1)) 0 := ht1.symm
     have hm2 : (if D < c.d - c.y then c.d - c.y else D) = botF (kids.take (k + 1)) 0 := hb1.symm
     have ff := (cj @hrl <| cj @hpl <| cj @hlt <| cj @hltr <| cj @hltp <| cj @hrk <| cj @hrk' <| cj @hpk <| cj @hpk' <| cj @w1 <| cj @w2 <| cj @w3 <| cj @w4 <| cj @hm1 <| cj @hm2 <| cj @hl1 <| cj @hl2 <| cj @hRl <| cj @hrr.symm <| cj @outC.eq_1 <| Tryz.results62)
     repeat any_goals (first | refine stW ?_ | exact lfW ff | refine ruW ff ?_ | refine cdW ff ?_ | ((first | refine bdW ff ?_ ?_ | refine bxW ff ?_ ?_ | refine bnW ff ?_ ?_ | refine brW ff ?_ ?_) <;> intro h <;> try (exfalso; omega)))
     refine ⟨⟨k + 1, by omega, by rw [ht1, mx_eq]; omega, by rw [ht1, mx_eq]; omega, by rw [hb1, mx_eq]; omega, by rw [hb1, mx_eq]; omega, by rw [hE]; omega, by rw [hE]; omega⟩, by simp only; omega, ?_⟩
     refine Le.wdrop 3 (Nat.le_of_ble_eq_true rfl) (by simp [subT, zboxC, outC]) (by simp [zboxC, outC]) (by simp [V.bnds, V.bnd]) (by simp [O.bnd, V.bnds, V.bnd, zboxC, outC])
   · have x1 : kids.take k = kids := List.take_of_length_le (by omega)
     have x2 : sp.take k = sp := List.take_of_length_le (by omega)
     rw [x1, x2]
     unfold lstR
     have eL : lst29 kids (pls kids sp 0) w = ⟨3, ⟨#[]⟩, 0, w, topF kids 0, botF kids 0, 0, 0, plc kids (pls kids sp 0), 0, []⟩ := rfl
     obtain ⟨vb, hvb⟩ : ∃ v, (lst29 kids (pls kids sp 0) w).validB = v := ⟨_, rfl⟩
     rw [hvb] at hbv ⊢
     rw [eL] at hbv ⊢
     obtain ⟨T, hT⟩ : ∃ T, topF kids 0 = T := ⟨_, rfl⟩
     obtain ⟨D, hD⟩ : ∃ D, botF kids 0 = D := ⟨_, rfl⟩
     obtain ⟨RR, hRR⟩ : ∃ R, Box.rows (plc kids (pls kids sp 0)) = R := ⟨_, rfl⟩
     simp only [boxV, Box.row, intsC, List.map_cons, List.map_nil, hT, hD, hRR] at hbv ⊢
     cases vb with
     | false =>
       rw [if_pos rfl]
       simp only [boxEV, boxV_vs, errV, zero_vs]
       have ff := (cj @hrl <| cj @hlt <| cj @outC.eq_1 <| cj @zboxC.eq_1 <| Tryz.results62)
       repeat any_goals (first | refine stW ?_ | exact lfW ff | refine ruW ff ?_ | refine caW ff (hbv) ?_ | refine cdW ff ?_ | ((first | refine bdW ff ?_ ?_ | refine bxW ff ?_ ?_ | refine bnW ff ?_ ?_ | refine brW ff ?_ ?_) <;> intro h <;> try (exfalso; omega)))
     | true =>
       rw [if_neg (by simp)]
       simp only [boxEV, boxV, errV, Box.row, intsC, List.map_cons, List.map_nil, hRR]
       have ff := (cj @hrl <| cj @hlt <| cj @outC.eq_1 <| cj @zboxC.eq_1 <| Tryz.results62)
       repeat any_goals (first | refine stW ?_ | exact lfW ff | refine ruW ff ?_ | refine caW ff (hbv) ?_ | refine cdW ff ?_ | ((first | refine bdW ff ?_ ?_ | refine bxW ff ?_ ?_ | refine bnW ff ?_ ?_ | refine brW ff ?_ ?_) <;> intro h <;> try (exfalso; omega)))
end Go.Proofs.YthbcljjpmdfflaaGreat
