/-
 Layer 29, plain, and hpack.valid, hpack.list on the abstract machine.
-/
import Derived.Test.YthbcljjpmdfflaaGreatEa
import Derived.Test.YthbcljjpmdfflaaGreatHa
namespace Go.Proofs.YthbcljjpmdfflaaGreat
open Go.RowKit
set_option linter.unusedSimpArgs false
set_option linter.unusedVariables false
set_option maxRecDepth 100000
def topF : List Box → Int → Int
 | [], h => h
 | b :: l, h => topF l (mx h (b.y + b.h))
def botF : List Box → Int → Int
 | [], d => d
 | b :: l, d => botF l (mx d (b.d - b.y))
def plc : List Box → List Int → List Box
 | b :: l, p :: q => b.at_ p b.y :: plc l q
 | _, _ => []
def lst29 (kids : List Box) (places : List Int) (w : Int) : Box := listB w (topF kids 0) (botF kids 0) (plc kids places)
def lstR (kids : List Box) (places : List Int) (w : Int) : Box × Int := if (lst29 kids places w).validB = false then (Box.zero, 6) else (lst29 kids places w, 0)
theorem plc_cnts : ∀ {kids : List Box} {pl : List Int}, pl.length = kids.length → Box.cnts (plc kids pl) = Box.cnts kids
 | [], _, _ => by cases ‹List Int› <;> rfl
 | b :: l, p :: q, h => by simp only [plc, Box.cnts, at_cnt, plc_cnts (kids := l) (pl := q) (by simpa using h)]
 | b :: l, [], h => by simp at h
theorem plc_doks : ∀ {kids : List Box} {pl : List Int}, Box.doks kids → Box.doks (plc kids pl)
 | [], [], _ => trivial
 | [], _ :: _, _ => trivial
 | b :: l, [], _ => trivial
 | b :: l, p :: q, h => by simp only [plc, Box.doks] at h ⊢; exact ⟨at_dok _ _ h.1, plc_doks h.2⟩
theorem plc_okks : ∀ {kids : List Box} {pl : List Int}, Box.okks kids → Box.okks (plc kids pl)
 | [], [], _ => trivial
 | [], _ :: _, _ => trivial
 | b :: l, [], _ => trivial
 | b :: l, p :: q, h => by simp only [plc, Box.okks] at h ⊢; exact ⟨at_okk _ _ h.1, plc_okks h.2⟩
theorem plc_len : ∀ {kids : List Box} {pl : List Int}, pl.length = kids.length → (plc kids pl).length = kids.length
 | [], _, _ => by cases ‹List Int› <;> rfl
 | b :: l, p :: q, h => by simp only [plc, List.length_cons, plc_len (kids := l) (pl := q) (by simpa using h)]
 | b :: l, [], h => by simp at h
theorem plc_get : ∀ {kids : List Box} {pl : List Int} {k : Nat} {b : Box} {p : Int}, kids[k]? = some b → pl[k]? = some p → (plc kids pl)[k]? = some (b.at_ p b.y)
 | b' :: l, p' :: q, 0, b, p, h1, h2 => by simp at h1 h2; subst h1 h2; rfl
 | b' :: l, p' :: q, k + 1, b, p, h1, h2 => by simp only [plc, List.getElem?_cons_succ] at *; exact plc_get h1 h2
 | [], _, _, _, _, h, _ => by simp at h
 | _ :: _, [], _, _, _, _, h => by simp at h
theorem plc_take : ∀ {kids : List Box} {pl : List Int} {k : Nat} {b : Box} {p : Int}, kids[k]? = some b → pl[k]? = some p → plc (kids.take (k + 1)) (pl.take (k + 1)) = plc (kids.take k) (pl.take k) ++ [b.at_ p b.y]
 | b' :: l, p' :: q, 0, b, p, h1, h2 => by simp at h1 h2; subst h1 h2; rfl
 | b' :: l, p' :: q, k + 1, b, p, h1, h2 => by
   simp only [List.getElem?_cons_succ] at h1 h2
   have := plc_take h1 h2
   simp only [List.take_succ_cons, plc, List.cons_append] at this ⊢
   rw [this]
 | [], _, _, _, _, h, _ => by simp at h
 | _ :: _, [], _, _, _, _, h => by simp at h
theorem topF_take : ∀ (l : List Box) (k : Nat) (b : Box) (h : Int), l[k]? = some b → topF (l.take (k + 1)) h = mx (topF (l.take k) h) (b.y + b.h)
 | [], _, _, _, h => by simp at h
 | x :: l, 0, b, h, hb => by simp at hb; subst hb; rfl
 | x :: l, k + 1, b, h, hb => by simp only [List.take_succ_cons, topF]; exact topF_take l k b _ (by simpa using hb)
theorem botF_take : ∀ (l : List Box) (k : Nat) (b : Box) (h : Int), l[k]? = some b → botF (l.take (k + 1)) h = mx (botF (l.take k) h) (b.d - b.y)
 | [], _, _, _, h => by simp at h
 | x :: l, 0, b, h, hb => by simp at hb; subst hb; rfl
 | x :: l, k + 1, b, h, hb => by simp only [List.take_succ_cons, botF]; exact botF_take l k b _ (by simpa using hb)
theorem valid_xy {b : Box} (h : b.validB = true) : (-1073741824 ≤ b.x ∧ b.x ≤ 1073741824) ∧ (-1073741824 ≤ b.y ∧ b.y ≤ 1073741824) := by
 obtain ⟨bk, bn, bs, bw, bh, bd, bx, by_, bkids, bo, bsrc⟩ := b
 simp only [Box.validB, Bool.and_eq_true, decide_eq_true_eq] at h
 obtain ⟨h1, h2, h3⟩ := h
 simp only [Box.propB, Box.ownB, Box.lens, Bool.and_eq_true, List.all_cons, List.all_nil] at h1
 obtain ⟨⟨⟨l1, l2, l3, l4, l5, _⟩, k1, k2⟩, h4⟩ := h1
 simp [lenValid] at l4 l5
 exact ⟨l4, l5⟩
theorem putL_at : ∀ (vs cs pre post : List V), cs.length = vs.length → putL (pre ++ (cs ++ post)) pre.length vs = pre ++ (vs ++ post)
 | [], cs, pre, post, h => by
   have : cs = [] := List.eq_nil_of_length_eq_zero (by simpa using h)
   subst this; simp [putL]
 | v :: vs, c :: cs, pre, post, h => by
   simp only [putL, List.cons_append]
   have := putL_at vs cs (pre ++ [v]) post (by simpa using h)
   simp only [List.length_append, List.length_cons, List.length_nil, Nat.zero_add, List.append_assoc, List.cons_append, List.nil_append] at this
   rw [← this]
   congr 1
   simp
def arr (l : List Box) (n : Nat) : List V := (Box.rows l).flatten.map V.c ++ (List.replicate n zboxC).flatten
theorem rows_flen (l : List Box) : (Box.rows l).flatten.length = l.length * 11 := by
 induction l with
 | nil => rfl
 | cons b l ih => simp only [Box.rows, List.flatten_cons, List.length_append, ih, List.length_cons, Box.row_len]; omega
theorem arr_len (l : List Box) (n : Nat) : (arr l n).length = (l.length + n) * 11 := by
 have h2 : (List.replicate n zboxC).flatten.length = n * 11 := by
  induction n with
  | zero => rfl
  | succ n ih => rw [List.replicate_succ, List.flatten_cons, List.length_append, ih]; simp [zboxC]; omega
 unfold arr
 rw [List.length_append, List.length_map, rows_flen, h2]; omega
theorem bnds_app {n : Nat} : ∀ {a b : List V}, V.bnds n (a ++ b) = (V.bnds n a && V.bnds n b)
 | [], b => by simp [V.bnds]
 | v :: a, b => by simp only [List.cons_append, V.bnds, bnds_app (a := a), Bool.and_assoc]
@[simp] theorem zbox_bnds (m : Nat) : V.bnds m zboxC = true := by simp [zboxC, V.bnds, V.bnd]
@[simp] theorem arr_bnds (m : Nat) (l : List Box) (n : Nat) : V.bnds m (arr l n) = true := by
 have h1 : ∀ r : List C, V.bnds m (r.map V.c) = true := by
  intro r
  induction r with
  | nil => rfl
  | cons c r ih => simp only [List.map_cons, V.bnds, V.bnd, ih, Bool.and_self]
 have h2 : V.bnds m (List.replicate n zboxC).flatten = true := by
  induction n with
  | zero => rfl
  | succ n ih => rw [List.replicate_succ, List.flatten_cons, bnds_app, ih, zbox_bnds]; rfl
 unfold arr
 rw [bnds_app, h1, h2]; rfl
theorem arr_put (l : List Box) (n : Nat) (b : Box) (p : Int) : (putL (arr l (n + 1)) (l.length * 11) b.vs).set (l.length * 11 + 6) (.c (.int .i64 p)) = arr (l ++ [b.at_ p b.y]) n := by
 have hp : ((Box.rows l).flatten.map V.c).length = l.length * 11 := by rw [List.length_map, rows_flen]
 have e1 : arr l (n + 1) = (Box.rows l).flatten.map V.c ++ (zboxC ++ (List.replicate n zboxC).flatten) := by
  unfold arr; rw [List.replicate_succ, List.flatten_cons]
 rw [e1, ← hp, putL_at _ _ _ _ (by rw [Box.vs_len]; rfl), List.set_append_right _ _ (by omega), show ((Box.rows l).flatten.map V.c).length + 6 - ((Box.rows l).flatten.map V.c).length = 6 by omega]
 have e2 : (b.vs ++ (List.replicate n zboxC).flatten).set 6 (.c (.int .i64 p)) = (b.at_ p b.y).vs ++ (List.replicate n zboxC).flatten := by cases b; rfl
 rw [e2]
 unfold arr
 have e3 : Box.rows (l ++ [b.at_ p b.y]) = Box.rows l ++ [(b.at_ p b.y).row] := by rw [rows_map, rows_map, List.map_append]; rfl
 rw [e3, List.flatten_append, List.map_append, List.append_assoc]
 simp only [List.flatten_cons, List.flatten_nil, List.append_nil]
 rfl
set_option maxHeartbeats 1600000 in
theorem hval_a (kids : List Box) (ho : Box.okks kids) (hc : Box.cnts kids ≤ 1000000) : AC Tryz.prog 45 [.c (.sl (Box.rows kids))] (.c (.bool (kids.all Box.validB))) := by
 obtain ⟨rs, hrs⟩ : ∃ rs, Box.rows kids = rs := ⟨_, rfl⟩
 have hrl : rs.length = kids.length := by rw [← hrs, rows_map]; simp
 have hkl := cnts_len kids
 rw [hrs]
 refine en Tryz.func45 Tryz.ntmps45 ?_
 have ff := (cj @hrl <| Tryz.results45)
 repeat any_goals (first | refine stW ?_ | exact lfW ff | refine ruW ff ?_ | refine cdW ff ?_ | ((first | refine bdW ff ?_ ?_ | refine bxW ff ?_ ?_ | refine bnW ff ?_ ?_ | refine brW ff ?_ ?_) <;> intro h <;> try (exfalso; omega)))
 refine lp (ι := { k : Nat // k ≤ kids.length ∧ kids.all Box.validB = (kids.drop k).all Box.validB }) (fun k => [(2, .c (.bool false)), (6, .c (.int .i64 (k.1 : Int)))]) (fun _ => []) (fun k => kids.length - k.1) ⟨0, by simp⟩ ?_ ?_
 all_goals simp only [puts, List.foldl_cons, List.foldl_nil, List.set_cons_zero, List.set_cons_succ]
 · refine Le.weak (by simp [subT])
 · rintro ⟨k, hk, hI⟩
   simp only
   by_cases hlt : k < kids.length
   · obtain ⟨c, hcc⟩ : ∃ c, kids[k] = c := ⟨_, rfl⟩
     have hgc : kids[k]? = some c := by rw [List.getElem?_eq_getElem hlt, hcc]
     rw [List.drop_eq_getElem_cons hlt, hcc, List.all_cons] at hI
     have hrk : rs[k]? = some c.row := by rw [← hrs, rows_map, List.getElem?_map, hgc]; rfl
     have hltr : k < rs.length := by omega
     have hrk' : ∀ hx : k < rs.length, rs[k]'hx = c.row := by intro hx; rw [List.getElem?_eq_getElem hx] at hrk; exact Option.some.inj hrk
     have hcn := cnts_get kids k c hgc
     have hv := pValid_a c (okks_mem ho c (List.mem_of_getElem? hgc)) (by omega)
     rw [boxV_vs] at hv
     have ff := (cj @hrl <| cj @hlt <| cj @hltr <| cj @hrk <| cj @hrk' <| Tryz.results45)
     repeat any_goals (first | refine stW ?_ | exact lfW ff | refine ruW ff ?_ | refine caW ff (hv) ?_ | refine cdW ff ?_ | ((first | refine bdW ff ?_ ?_ | refine bxW ff ?_ ?_ | refine bnW ff ?_ ?_ | refine brW ff ?_ ?_) <;> intro h <;> try (exfalso; omega)))
     all_goals exact ⟨⟨k + 1, by omega, by rw [hI, h, Bool.true_and]⟩, by simp only; omega, wd 0⟩
   · rw [List.drop_of_length_le (by omega), List.all_nil] at hI
     have ff := (cj @hrl <| cj @hlt <| Tryz.results45)
     repeat any_goals (first | refine stW ?_ | exact lfW ff | refine ruW ff ?_ | refine cdW ff ?_ | ((first | refine bdW ff ?_ ?_ | refine bxW ff ?_ ?_ | refine bnW ff ?_ ?_ | refine brW ff ?_ ?_) <;> intro h <;> try (exfalso; omega)))
set_option maxHeartbeats 3200000 in
theorem hlist_a (kids : List Box) (pl : List Int) (w : Int) (hv : ∀ b ∈ kids, b.validB = true) (ho : Box.okks kids) (hd : Box.doks kids) (hl : pl.length = kids.length) (hc : Box.cnts kids ≤ 900000) (hk9 : kids.length ≤ 10000) : AC Tryz.prog 48 [.c (.sl (Box.rows kids)), .c (intsC pl), .c (.int .i64 w)] (boxEV (lstR kids pl w)) := by
 obtain ⟨rs, hrs⟩ : ∃ rs, Box.rows kids = rs := ⟨_, rfl⟩
 have hrl : rs.length = kids.length := by rw [← hrs, rows_map]; simp
 obtain ⟨ps, hps⟩ : ∃ ps, pl.map (fun n => [C.int .i64 n]) = ps := ⟨_, rfl⟩
 have hpl : ps.length = kids.length := by rw [← hps, List.length_map, hl]
 have hli := plist_a w (topF kids 0) (botF kids 0) (plc kids pl) (plc_doks hd) (by rw [plc_cnts hl]; omega)
 have hbv := pValid_a (lst29 kids pl w) (show Box.okk (listB _ _ _ _) from ⟨(Nat.zero_le _ : 0 ≤ maxLen), (Nat.zero_le _ : 0 ≤ maxLen), plc_okks ho⟩) (by show Box.cnt (listB _ _ _ _) ≤ _; simp only [listB, Box.cnt, plc_cnts hl]; omega)
 have e29 : listB w (topF kids 0) (botF kids 0) (plc kids pl) = lst29 kids pl w := rfl
 rw [e29] at hli
 obtain ⟨B, hB⟩ : ∃ B, lst29 kids pl w = B := ⟨_, rfl⟩
 unfold lstR
 rw [hB] at hli hbv ⊢
 have hia : intsC pl = .sl ps := by rw [← hps]; rfl
 rw [hrs, hia]
 simp only [boxV_vs] at hli hbv
 have hn1 : 128 * (kids.length : Int) ≤ 281474976710656 := by omega
 have hn3 : (kids.length : Int) ≤ 9223372036854775807 := by omega
 have hn2 : ¬ (20000 : Int) ≤ (kids.length : Int) := by omega
 refine en Tryz.func48 Tryz.ntmps48 ?_
 have ff := (cj @hrl <| cj @hn1 <| cj @hn3 <| Tryz.results48)
 repeat any_goals (first | refine stW ?_ | exact lfW ff | refine ruW ff ?_ | refine cdW ff ?_ | ((first | refine bdW ff ?_ ?_ | refine bxW ff ?_ ?_ | refine bnW ff ?_ ?_ | refine brW ff ?_ ?_) <;> intro h <;> try (exfalso; omega)))
 refine lp (ι := { k : Nat // k ≤ kids.length ∧ topF (kids.take k) 0 ≤ 3000000000 ∧ 0 ≤ topF (kids.take k) 0 ∧ botF (kids.take k) 0 ≤ 3000000000 ∧ 0 ≤ botF (kids.take k) 0 }) (fun k => [(9, .c (.int .i64 (topF (kids.take k.1) 0))), (10, .c (.int .i64 (botF (kids.take k.1) 0))), (18, .c (.int .i64 (k.1 : Int)))]) (fun k => [.box 33 zboxC false, .box 33 (arr (plc (kids.take k.1) (pl.take k.1)) (kids.length - k.1)) false]) (fun k => kids.length - k.1) ⟨0, by simp [topF, botF]⟩ ?_ ?_
 all_goals simp only [puts, List.foldl_cons, List.foldl_nil, List.set_cons_zero, List.set_cons_succ]
 · refine Le.weak (by simp [subT, topF, botF])
 · rintro ⟨k, hk, t1, t2, b1, b2⟩
   simp only
   by_cases hlt : k < kids.length
   · obtain ⟨c, hcc⟩ : ∃ c, kids[k] = c := ⟨_, rfl⟩
     have hgc : kids[k]? = some c := by rw [List.getElem?_eq_getElem hlt, hcc]
     have hrk : rs[k]? = some c.row := by rw [← hrs, rows_map, List.getElem?_map, hgc]; rfl
     have hltr : k < rs.length := by omega
     have hltp : k < ps.length := by omega
     have hrk' : ∀ hx : k < rs.length, rs[k]'hx = c.row := by intro hx; rw [List.getElem?_eq_getElem hx] at hrk; exact Option.some.inj hrk
     obtain ⟨p, hp⟩ : ∃ p, pl[k]? = some p := ⟨_, List.getElem?_eq_getElem (by omega)⟩
     have hpk : ps[k]? = some [.int .i64 p] := by rw [← hps, List.getElem?_map, hp]; rfl
     have hpk' : ∀ hx : k < ps.length, ps[k]'hx = [.int .i64 p] := by intro hx; rw [List.getElem?_eq_getElem hx] at hpk; exact Option.some.inj hpk
     have hcv := hv c (List.mem_of_getElem? hgc)
     obtain ⟨cw, ch, cd, _⟩ := valid_len hcv
     obtain ⟨cx, cy⟩ := valid_xy hcv
     have hA : arr (plc (kids.take k) (pl.take k)) (kids.length - k) = arr (plc (kids.take k) (pl.take k)) (kids.length - (k + 1) + 1) := by rw [show kids.length - (k + 1) + 1 = kids.length - k by omega]
     have hpn : (plc (kids.take k) (pl.take k)).length = k := by rw [plc_len (by simp [hl]), List.length_take]; omega
     have hput := arr_put (plc (kids.take k) (pl.take k)) (kids.length - (k + 1)) c p
     have hal := arr_len (plc (kids.take k) (pl.take k)) (kids.length - k)
     rw [← hA, hpn, ← plc_take hgc hp] at hput
     rw [hpn, show k + (kids.length - k) = kids.length by omega] at hal
     have ht1 := topF_take kids k c 0 hgc
     have hb1 := botF_take kids k c 0 hgc
     obtain ⟨X0, hX0⟩ : ∃ X, arr (plc (kids.take k) (pl.take k)) (kids.length - k) = X := ⟨_, rfl⟩
     rw [hX0] at hput hal ⊢
     obtain ⟨X1, hX1⟩ : ∃ X, putL X0 (k * 11) c.vs = X := ⟨_, rfl⟩
     have hal1 : X1.length = kids.length * 11 := by rw [← hX1, putL_len, hal]
     rw [hX1] at hput
     obtain ⟨T, hT⟩ : ∃ T, topF (kids.take k) 0 = T := ⟨_, rfl⟩
     obtain ⟨D, hD⟩ : ∃ D, botF (kids.take k) 0 = D := ⟨_, rfl⟩
     rw [hT] at ht1 t1 t2 ⊢
     rw [hD] at hb1 b1 b2 ⊢
     have hm1 : (if T < c.y + c.h then c.y + c.h else T) = topF (kids.take (k + 1)) 0 := ht1.symm
     have hm2 : (if D < c.d - c.y then c.d - c.y else D) = botF (kids.take (k + 1)) 0 := hb1.symm
     have hq1 : k * 11 + 11 ≤ kids.length * 11 := by omega
     have hq2 : k * 11 + 6 < kids.length * 11 := by omega
     have ff := (cj @hrl <| cj @hpl <| cj @hlt <| cj @hltr <| cj @hltp <| cj @hrk <| cj @hrk' <| cj @hpk <| cj @hpk' <| cj @hal <| cj @hX1 <| cj @hal1 <| cj @hput <| cj @hq1 <| cj @hq2 <| cj @hm1 <| cj @hm2 <| Tryz.results48)
     repeat any_goals (first | refine stW ?_ | exact lfW ff | refine ruW ff ?_ | refine cdW ff ?_ | ((first | refine bdW ff ?_ ?_ | refine bxW ff ?_ ?_ | refine bnW ff ?_ ?_ | refine brW ff ?_ ?_) <;> intro h <;> try (exfalso; omega)))
     exact ⟨⟨k + 1, by omega, by rw [ht1, mx_eq]; omega, by rw [ht1, mx_eq]; omega, by rw [hb1, mx_eq]; omega, by rw [hb1, mx_eq]; omega⟩, by simp only; omega, wd 2⟩
   · have e1 : kids.take k = kids := List.take_of_length_le (by omega)
     have e2 : pl.take k = pl := List.take_of_length_le (by omega)
     rw [e1] at t1 t2 b1 b2 ⊢
     rw [e2]
     have hz : kids.length - k = 0 := by omega
     rw [hz]
     have e3 : arr (plc kids pl) 0 = (Box.rows (plc kids pl)).flatten.map V.c := by simp [arr]
     have e4 : chop 11 kids.length (Box.rows (plc kids pl)).flatten = Box.rows (plc kids pl) := by
      have := chop_rows_eq (Box.rows (plc kids pl)) (rows_len' _)
      rwa [show (Box.rows (plc kids pl)).length = kids.length by rw [rows_map, List.length_map, plc_len hl]] at this
     rw [e3]
     refine AW.frz 1 rfl (toCs_map _) (by simp [V.frzs, V.frz, e4]; exact rfl) (by simp [O.frz, V.frzs, V.frz, zboxC]; exact rfl) ?_
     have ff := (cj @hrl <| cj @hlt <| cj @hn2 <| cj @boxEV.eq_1 <| cj @boxV_vs <| cj @errV.eq_1 <| cj @zero_vs <| cj @zboxC.eq_1 <| Tryz.results48)
     repeat any_goals (first | refine stW ?_ | exact lfW ff | refine ruW ff ?_ | refine caW ff (hli) ?_ | refine caW ff (hbv) ?_ | refine cdW ff ?_ | ((first | refine bdW ff ?_ ?_ | refine bxW ff ?_ ?_ | refine bnW ff ?_ ?_ | refine brW ff ?_ ?_) <;> intro h <;> try (exfalso; omega)))
end Go.Proofs.YthbcljjpmdfflaaGreat
