/-
 hpack.Row on the abstract machine.
-/
import Derived.Test.YthbcljjpmdfflaaGreatEh
import Derived.Test.YthbcljjpmdfflaaGreatEd
namespace Go.Proofs.YthbcljjpmdfflaaGreat
open Go.RowKit
set_option linter.unusedSimpArgs false
set_option linter.unusedVariables false
set_option maxRecDepth 100000
def endX : List Box → List Int → Int → Int
 | b :: l, s :: t, e => endX l t (e + s + b.w)
 | _, _, e => e
def pls : List Box → List Int → Int → List Int
 | b :: l, s :: t, e => (e + s) :: pls l t (e + s + b.w)
 | _, _, _ => []
def rowR (kids : List Box) (sp : List Int) : Box × Int :=
 if kids.all Box.validB = false then (Box.zero, 1)
 else if sp.length ≠ kids.length ∨ sp.all lenValid = false then (Box.zero, 2)
 else lstR kids (pls kids sp 0) (endX kids sp 0)
theorem endX_take : ∀ {l : List Box} {t : List Int} {k : Nat} {b : Box} {s : Int} (e : Int), l[k]? = some b → t[k]? = some s → endX (l.take (k + 1)) (t.take (k + 1)) e = endX (l.take k) (t.take k) e + s + b.w
 | b' :: l, s' :: t, 0, b, s, e, h1, h2 => by simp at h1 h2; subst h1 h2; rfl
 | b' :: l, s' :: t, k + 1, b, s, e, h1, h2 => by
   simp only [List.getElem?_cons_succ] at h1 h2
   simp only [List.take_succ_cons, endX]
   exact endX_take _ h1 h2
 | [], _, _, _, _, _, h, _ => by simp at h
 | _ :: _, [], _, _, _, _, _, h => by simp at h
theorem pls_take : ∀ {l : List Box} {t : List Int} {k : Nat} {b : Box} {s : Int} (e : Int), l[k]? = some b → t[k]? = some s → pls (l.take (k + 1)) (t.take (k + 1)) e = pls (l.take k) (t.take k) e ++ [endX (l.take k) (t.take k) e + s]
 | b' :: l, s' :: t, 0, b, s, e, h1, h2 => by simp at h1 h2; subst h1 h2; rfl
 | b' :: l, s' :: t, k + 1, b, s, e, h1, h2 => by
   simp only [List.getElem?_cons_succ] at h1 h2
   simp only [List.take_succ_cons, pls, endX, List.cons_append]
   rw [pls_take _ h1 h2]
 | [], _, _, _, _, _, h, _ => by simp at h
 | _ :: _, [], _, _, _, _, _, h => by simp at h
theorem pls_len : ∀ {l : List Box} {t : List Int} (e : Int), t.length = l.length → (pls l t e).length = l.length
 | [], [], _, _ => rfl
 | b :: l, s :: t, e, h => by simp only [pls, List.length_cons]; rw [pls_len _ (by simpa using h)]
 | b :: l, [], _, h => by simp at h
 | [], _ :: _, _, h => by simp at h
def iarr (l : List Int) (n : Nat) : List V := l.map (fun n => V.c (.int .i64 n)) ++ List.replicate n (.c (.int .i64 0))
theorem iarr_len (l : List Int) (n : Nat) : (iarr l n).length = l.length + n := by simp [iarr]
theorem iarr_put (l : List Int) (n : Nat) (v : Int) : (iarr l (n + 1)).set l.length (.c (.int .i64 v)) = iarr (l ++ [v]) n := by
 unfold iarr
 rw [List.set_append_right _ _ (by simp)]
 simp [List.replicate_succ]
theorem iarr_get (l : List Int) (n : Nat) (v : Int) : (iarr (l ++ [v]) n)[l.length]? = some (.c (.int .i64 v)) := by
 unfold iarr
 rw [List.getElem?_append_left (by simp)]
 simp
@[simp] theorem iarr_bnds (m : Nat) (l : List Int) (n : Nat) : V.bnds m (iarr l n) = true := by
 unfold iarr
 rw [bnds_app]
 have h1 : V.bnds m (l.map fun n => V.c (.int .i64 n)) = true := by
  induction l with
  | nil => rfl
  | cons c r ih => simp only [List.map_cons, V.bnds, V.bnd, ih, Bool.and_self]
 have h2 : V.bnds m (List.replicate n (.c (.int .i64 0))) = true := by
  induction n with
  | zero => rfl
  | succ n ih => simp only [List.replicate_succ, V.bnds, V.bnd, ih, Bool.and_self]
 rw [h1, h2]; rfl
theorem iarr_flat (n : Nat) : (List.replicate n [V.c (.int .i64 0)]).flatten = iarr [] n := by
 induction n with
 | zero => rfl
 | succ n ih => rw [List.replicate_succ, List.flatten_cons, ih]; simp [iarr, List.replicate_succ]
theorem gx {α : Type} {l : List α} {k : Nat} {x : α} (h : l[k]? = some x) : ∀ hx : k < l.length, l[k]'hx = x := fun hx => by rw [List.getElem?_eq_getElem hx] at h; exact Option.some.inj h
theorem iarr_toCs (l : List Int) : toCs (iarr l 0) = some (l.map (C.int .i64)) := by
 have e : iarr l 0 = (l.map (C.int .i64)).map V.c := by simp [iarr]
 rw [e]; exact toCs_c _
theorem chop_ints : ∀ l : List Int, chop 1 l.length (l.map (C.int .i64)) = l.map fun n => [C.int .i64 n]
 | [] => rfl
 | n :: l => by simp only [List.length_cons, List.map_cons, chop]; rw [show (C.int IntKind.i64 n :: List.map (C.int IntKind.i64) l).drop 1 = l.map (C.int .i64) from rfl, chop_ints l]; rfl
theorem all_valid {l : List Box} (h : l.all Box.validB = true) : ∀ b ∈ l, b.validB = true := fun b hb => List.all_eq_true.1 h b hb
theorem all_doks : ∀ {l : List Box}, (∀ b ∈ l, b.validB = true) → Box.doks l
 | [], _ => trivial
 | b :: l, h => ⟨valid_dok (h b List.mem_cons_self), all_doks fun c hc => h c (List.mem_cons_of_mem _ hc)⟩
set_option maxHeartbeats 3200000 in
theorem prow_a (kids : List Box) (sp : List Int) (ho : Box.okks kids) (hc : Box.cnts kids ≤ 900000) (hk9 : kids.length ≤ 10000) (hs9 : sp.length ≤ 1000000) : AC Tryz.prog 21 [.c (.sl (Box.rows kids)), .c (intsC sp)] (boxEV (rowR kids sp)) := by
 obtain ⟨rs, hrs⟩ : ∃ rs, Box.rows kids = rs := ⟨_, rfl⟩
 have hrl : rs.length = kids.length := by rw [← hrs, rows_map]; simp
 obtain ⟨ps, hps⟩ : ∃ ps, sp.map (fun n => [C.int .i64 n]) = ps := ⟨_, rfl⟩
 have hpl : ps.length = sp.length := by rw [← hps, List.length_map]
 have hia : intsC sp = .sl ps := by rw [← hps]; rfl
 have hval := hval_a kids ho (by omega)
 rw [hrs] at hval
 unfold rowR
 rw [hrs, hia]
 have hn1 : 8 * (kids.length : Int) ≤ 281474976710656 := by omega
 have hn3 : (kids.length : Int) ≤ 9223372036854775807 := by omega
 refine en Tryz.func21 Tryz.ntmps21 ?_
 have ff := (cj @hrl <| cj @hpl <| cj @hn1 <| cj @hn3 <| cj @boxEV.eq_1 <| cj @boxV_vs <| cj @errV.eq_1 <| cj @zero_vs <| Tryz.results21)
 repeat any_goals (first | refine stN (RegN.mk 6) ?_ | exact lfW ff | refine ruW ff ?_ | refine caW ff (hval) ?_ | refine cdW ff ?_ | ((first | refine bdW ff ?_ ?_ | refine bxW ff ?_ ?_ | refine bnW ff ?_ ?_ | refine brW ff ?_ ?_) <;> intro h <;> try (exfalso; omega)))
 · have hne : sp.length ≠ kids.length := by omega
   have ff := (cj @hrl <| cj @hpl <| cj @boxEV.eq_1 <| cj @boxV_vs <| cj @errV.eq_1 <| cj @zero_vs <| Tryz.results21)
   repeat any_goals (first | refine stW ?_ | exact lfW ff | refine ruW ff ?_ | refine cdW ff ?_ | ((first | refine bdW ff ?_ ?_ | refine bxW ff ?_ ?_ | refine bnW ff ?_ ?_ | refine brW ff ?_ ?_) <;> intro h <;> try (exfalso; omega)))
 · have hl : sp.length = kids.length := by omega
   have hvk : kids.all Box.validB = true := ‹_›
   have hva := all_valid hvk
   rw [if_neg (by simp [hvk])]
   rw [show List.replicate kids.length (V.c (C.int IntKind.i64 0)) = iarr [] kids.length from rfl]
   refine AW.regionS ?_
   refine SW.callm mover_c (cs := [.int .i64 0]) (fun S w => by simp only [RdL, RdC]; exact ⟨_, _, rfl, ⟨rfl, by decide +kernel⟩, rfl⟩) Tryz.func46 rfl rfl rfl rfl ?_
   refine SW.take 1 ?_
   with_reducible refine aops_run (by simp [List.replicate_succ]; first | exact rfl | exact ⟨rfl, rfl⟩) ?_
   refine aops_done ?_
   simp only [List.drop_succ_cons, List.drop_zero]
   refine SW.nil ?_
   have ff := (cj @hrl <| cj @hpl <| cj @hn1 <| Tryz.results21)
   repeat any_goals (first | refine stW ?_ | exact lfW ff | refine ruW ff ?_ | refine cdW ff ?_ | ((first | refine bdW ff ?_ ?_ | refine bxW ff ?_ ?_ | refine bnW ff ?_ ?_ | refine brW ff ?_ ?_) <;> intro h <;> try (exfalso; omega)))
   refine lp (ι := { k : Nat // k ≤ kids.length ∧ sp.all lenValid = (sp.drop k).all lenValid ∧ -(k : Int) * 2147483648 ≤ endX (kids.take k) (sp.take k) 0 ∧ endX (kids.take k) (sp.take k) 0 ≤ (k : Int) * 2147483648 }) (fun k => [(5, .c (.int .i64 0)), (8, .c (.int .i64 (endX (kids.take k.1) (sp.take k.1) 0))), (26, .c (.int .i64 (k.1 : Int)))]) (fun k => [.box 33 zboxC false, .box 3 (iarr (pls (kids.take k.1) (sp.take k.1) 0) (kids.length - k.1)) false, .box 3 [.c (.int .i64 (endX (kids.take k.1) (sp.take k.1) 0))] false]) (fun k => kids.length - k.1) ⟨0, by simp [endX]⟩ ?_ ?_
   all_goals simp only [puts, List.foldl_cons, List.foldl_nil, List.set_cons_zero, List.set_cons_succ]
   · refine Le.weak (by simp [subT, endX])
   · rintro ⟨k, hk, hI, b1, b2⟩
     simp only
     by_cases hlt : k < kids.length
     · obtain ⟨c, hcc⟩ : ∃ c, kids[k] = c := ⟨_, rfl⟩
       have hgc : kids[k]? = some c := by rw [List.getElem?_eq_getElem hlt, hcc]
       have hlts : k < sp.length := by omega
       obtain ⟨s, hss⟩ : ∃ s, sp[k] = s := ⟨_, rfl⟩
       have hgs : sp[k]? = some s := by rw [List.getElem?_eq_getElem hlts, hss]
       rw [List.drop_eq_getElem_cons hlts, hss, List.all_cons] at hI
       have hrk : rs[k]? = some c.row := by rw [← hrs, rows_map, List.getElem?_map, hgc]; rfl
       have hltr : k < rs.length := by omega
       have hltp : k < ps.length := by omega
       have hrk' : ∀ hx : k < rs.length, rs[k]'hx = c.row := by intro hx; rw [List.getElem?_eq_getElem hx] at hrk; exact Option.some.inj hrk
       have hpk : ps[k]? = some [.int .i64 s] := by rw [← hps, List.getElem?_map, hgs]; rfl
       have hpk' : ∀ hx : k < ps.length, ps[k]'hx = [.int .i64 s] := by intro hx; rw [List.getElem?_eq_getElem hx] at hpk; exact Option.some.inj hpk
       obtain ⟨cw, ch, cd, _⟩ := valid_len (hva c (List.mem_of_getElem? hgc))
       have hE := endX_take 0 hgc hgs
       have hpt := pls_take 0 hgc hgs
       have hpn : (pls (kids.take k) (sp.take k) 0).length = k := by rw [pls_len _ (by simp [hl]), List.length_take]; omega
       have hput := iarr_put (pls (kids.take k) (sp.take k) 0) (kids.length - (k + 1)) (endX (kids.take k) (sp.take k) 0 + s)
       have hget := iarr_get (pls (kids.take k) (sp.take k) 0) (kids.length - (k + 1)) (endX (kids.take k) (sp.take k) 0 + s)
       have hal := iarr_len (pls (kids.take k) (sp.take k) 0) (kids.length - k)
       have hal1 := iarr_len (pls (kids.take (k + 1)) (sp.take (k + 1)) 0) (kids.length - (k + 1))
       rw [← hpt, hpn] at hput hget
       rw [hpn, show k + (kids.length - k) = kids.length by omega] at hal
       rw [hpt, List.length_append, hpn, List.length_singleton, ← hpt, show k + 1 + (kids.length - (k + 1)) = kids.length by omega] at hal1
       rw [show kids.length - (k + 1) + 1 = kids.length - k by omega] at hput
       obtain ⟨X0, hX0⟩ : ∃ X, iarr (pls (kids.take k) (sp.take k) 0) (kids.length - k) = X := ⟨_, rfl⟩
       obtain ⟨E, hEE⟩ : ∃ E, endX (kids.take k) (sp.take k) 0 = E := ⟨_, rfl⟩
       rw [hX0] at hput hal ⊢
       rw [hEE] at hput hget hE b1 b2 ⊢
       have hlv := lvalid_a s
       have ff := (cj @hrl <| cj @hpl <| cj @hlt <| cj @hltr <| cj @hltp <| cj @hrk <| cj @hrk' <| cj @hpk <| cj @hpk' <| cj @boxEV.eq_1 <| cj @boxV_vs <| cj @errV.eq_1 <| cj @zero_vs <| cj @zboxC.eq_1 <| Tryz.results21)
       repeat any_goals (first | refine stN (RegN.mk 13) ?_ | exact lfW ff | refine ruW ff ?_ | refine caW ff (hlv) ?_ | refine cdW ff ?_ | ((first | refine bdW ff ?_ ?_ | refine bxW ff ?_ ?_ | refine bnW ff ?_ ?_ | refine brW ff ?_ ?_) <;> intro h <;> try (exfalso; omega)))
       have hs : lenValid s = true := ‹_›
       simp [lenValid] at hs
       have hk1 : k + 1 ≤ kids.length := by omega
       refine AW.drawS mixedP (.inl rfl) ?_
       refine TW.take 12 (adraw_go (by simp [hrl, hlt, hltr, hltp, hrk, hrk', hpk, hpk']; first | exact rfl | exact ⟨rfl, rfl⟩ | exact ⟨rfl, rfl, rfl⟩) (adraw_nil ?_))
       simp only [List.drop_succ_cons, List.drop_zero]
       refine TW.callx 2 (move_x E s c.w (by omega) (by omega) (by omega) (by omega)) Tryz.func72 rfl rfl rfl rfl rfl rfl rfl ?_
       simp only [St.step, St.put, updH, List.length_cons, List.length_nil, Nat.reduceAdd, Nat.reduceLT, if_true, List.set_cons_succ, List.set_cons_zero, List.map_cons, List.map_nil]
       refine TW.take 2 (adraw_go (by simp [hlt, hk1, hal, hput]; first | exact rfl | exact ⟨rfl, rfl⟩ | exact ⟨rfl, rfl, rfl⟩) (adraw_nil (TW.nil ⟨by kernel_rfl, ?_⟩)))
       have hget' := gx hget
       have ff := (cj @hrl <| cj @hlt <| cj @hltr <| cj @hrk <| cj @hrk' <| cj @hget <| cj @hget' <| cj @hal1 <| cj @hE.symm <| Tryz.results21)
       repeat any_goals (first | refine stW ?_ | exact lfW ff | refine ruW ff ?_ | refine cdW ff ?_ | ((first | refine bdW ff ?_ ?_ | refine bxW ff ?_ ?_ | refine bnW ff ?_ ?_ | refine brW ff ?_ ?_) <;> intro h <;> try (exfalso; omega)))
       refine ⟨⟨k + 1, by omega, by rw [hI]; simp [h], by rw [hE]; omega, by rw [hE]; omega⟩, by simp only; omega, ?_⟩
       refine Le.wdrop 3 (Nat.le_of_ble_eq_true rfl) (by simp [subT, zboxC]) (by simp [zboxC]) (by simp [V.bnds, V.bnd]) (by simp [O.bnd, V.bnds, V.bnd, zboxC])
     · have hz : kids.length - k = 0 := by omega
       have e1 : kids.take k = kids := List.take_of_length_le (by omega)
       have e2 : sp.take k = sp := List.take_of_length_le (by omega)
       rw [List.drop_of_length_le (by omega), List.all_nil] at hI
       rw [e1, e2] at b1 b2 ⊢
       rw [hz, if_neg (by simp [hI, hl])]
       have hli := hlist_a kids (pls kids sp 0) (endX kids sp 0) hva ho (all_doks hva) (pls_len 0 hl) hc hk9
       have hch := chop_ints (pls kids sp 0)
       rw [pls_len 0 hl] at hch
       rw [hrs] at hli
       obtain ⟨E, hEE⟩ : ∃ E, endX kids sp 0 = E := ⟨_, rfl⟩
       obtain ⟨L, hL⟩ : ∃ L, pls kids sp 0 = L := ⟨_, rfl⟩
       obtain ⟨R, hR⟩ : ∃ R, lstR kids L E = R := ⟨_, rfl⟩
       rw [hEE, hL] at hli ⊢
       rw [hL] at hch
       rw [hR] at hli ⊢
       simp only [boxEV, boxV_vs, errV, intsC] at hli ⊢
       refine AW.frz 1 rfl (iarr_toCs L) (by simp [V.frzs, V.frz, hch]; exact rfl) (by simp [O.frz, V.frzs, V.frz, zboxC]; exact rfl) ?_
       have ff := (cj @hrl <| cj @hlt <| cj @zboxC.eq_1 <| Tryz.results21)
       repeat any_goals (first | refine stW ?_ | exact lfW ff | refine ruW ff ?_ | refine caW ff (hli) ?_ | refine cdW ff ?_ | ((first | refine bdW ff ?_ ?_ | refine bxW ff ?_ ?_ | refine bnW ff ?_ ?_ | refine brW ff ?_ ?_) <;> intro h <;> try (exfalso; omega)))
end Go.Proofs.YthbcljjpmdfflaaGreat
