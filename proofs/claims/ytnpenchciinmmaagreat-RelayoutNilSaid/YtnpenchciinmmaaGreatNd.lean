/-
  deep.Box on the abstract machine: the copy of a box (printed by mkdn.py).
-/
import Derived.Test.YtnpenchciinmmaaGreatBe
namespace Go.Proofs.YtnpenchciinmmaaGreat
open Go.RowKit
set_option linter.unusedSimpArgs false
set_option linter.unusedVariables false
set_option maxRecDepth 100000

theorem rows_map : ∀ l : List Box, Box.rows l = l.map Box.row
  | [] => rfl
  | x :: l => by simp only [Box.rows, List.map_cons]; rw [rows_map l]

mutual
def Box.cnt : Box → Nat
  | ⟨_, _, _, _, _, _, _, _, kids, _, _⟩ => 1 + Box.cnts kids
def Box.cnts : List Box → Nat
  | [] => 0
  | b :: l => b.cnt + Box.cnts l
end
mutual
def Box.dok : Box → Prop
  | ⟨_, _, _, _, _, _, _, _, kids, _, src⟩ => src.length ≤ 1000000 ∧ Box.doks kids
def Box.doks : List Box → Prop
  | [] => True
  | b :: l => b.dok ∧ Box.doks l
end
theorem cnt_pos (b : Box) : 0 < b.cnt := by cases b; simp only [Box.cnt]; omega
theorem cnts_len : ∀ l : List Box, l.length ≤ Box.cnts l
  | [] => Nat.le_refl _
  | b :: l => by have := cnts_len l; have := cnt_pos b; simp only [Box.cnts, List.length_cons]; omega
theorem cnts_get : ∀ (l : List Box) (i : Nat) (b : Box), l[i]? = some b → i + b.cnt ≤ Box.cnts l
  | [], i, b, h => by simp at h
  | x :: l, 0, b, h => by simp at h; subst h; simp only [Box.cnts]; omega
  | x :: l, i + 1, b, h => by have := cnts_get l i b (by simpa using h); have := cnt_pos x; simp only [Box.cnts]; omega
theorem doks_get : ∀ (l : List Box) (i : Nat) (b : Box), Box.doks l → l[i]? = some b → b.dok
  | [], i, b, _, h => by simp at h
  | x :: l, 0, b, hd, h => by simp at h; subst h; exact hd.1
  | x :: l, i + 1, b, hd, h => doks_get l i b hd.2 (by simpa using h)
theorem row_len (b : Box) : b.row.length = 11 := by cases b; rfl
theorem rows_len' (l : List Box) : ∀ r ∈ Box.rows l, r.length = 11 := by
  rw [rows_map]
  intro r hr
  obtain ⟨b, _, rfl⟩ := List.mem_map.1 hr
  exact row_len b
theorem flat_get {l : List Box} {i q : Nat} {b : Box} (h : l[i]? = some b) (hq : q < 11) : ((Box.rows l).flatten.map V.c)[i * 11 + q]? = (b.row.map V.c)[q]? := by
  rw [List.getElem?_map, List.getElem?_map]
  congr 1
  rw [rows_map]
  induction l generalizing i with
  | nil => simp at h
  | cons x l ih =>
    cases i with
    | zero =>
      simp at h
      subst h
      rw [List.map_cons, List.flatten_cons, Nat.zero_mul, Nat.zero_add, List.getElem?_append_left (by rw [row_len]; exact hq)]
    | succ i =>
      rw [List.map_cons, List.flatten_cons, List.getElem?_append_right (by rw [row_len]; omega), row_len, ← ih (i := i) (by simpa using h)]
      congr 1
      omega

theorem Wks_set_full {N : Nat} : ∀ {l : List V} {i : Nat}, l[i]? = some (.c (.sl [])) → V.sfs N l = true → Wks (rho 2) N (l.set i (.full [])) l
  | [], i, h, _ => by simp at h
  | v :: l, 0, h, hs => by
    simp at h
    subst h
    simp only [V.sfs, Bool.and_eq_true] at hs
    exact ⟨.inr (.inr ⟨[], rfl, rfl⟩), Wks_sf hs.2 (Nat.le_refl _)⟩
  | v :: l, i + 1, h, hs => by
    simp only [V.sfs, Bool.and_eq_true] at hs
    rw [List.set_cons_succ]
    exact ⟨.inr (.inl ⟨(sf_ren (N := N) (fun k _ hk => by simp [rho, hk]) v hs.1).symm, (sf_bnd (Nat.le_refl _) v hs.1).1⟩), Wks_set_full (by simpa using h) hs.2⟩
theorem dT_wk {N n : Nat} {t : List V} (hN : 2 < N) (hl : t.length = 71) (ht : t.take 4 = [.any, .ptr 0 0, .ptr 1 0, .own 2 0 n 1]) : Wks (rho 2) N t (dT n) := by
  have e : t = [.any, .ptr 0 0, .ptr 1 0, .own 2 0 n 1] ++ t.drop 4 := by rw [← ht, List.take_append_drop]
  rw [e]
  have e2 : (67 : Nat) = (t.drop 4).length := by rw [List.length_drop, hl]
  unfold dT
  rw [e2]
  refine Wks.append ?_ (Wks.any _)
  have h0 : 0 < N := by omega
  have h1 : 1 < N := by omega
  simp [Wks, Wk, V.ren, V.bnd, rho, hN, h0, h1]

section
variable {K : Exit → St → Prop}
abbrev DL (K : Exit → St → Prop) (s : St) : Prop := LA ⟨none, 0⟩ Tryz.prog deepBody K s
/-- a tree at the top of the stack is copied, and the stack is one less -/
def DTree (K : Exit → St → Prop) (b : Box) : Prop := ∀ (H : List O) (st : List V) (j k off : Nat) (ty : TypeId) (cs : List V), H[2]? = some (stk (st ++ [.ptr k off]) j) → H[k]? = some (.box ty cs false) → k ≠ 2 → (∀ q, q < 11 → cs[off + q]? = (b.row.map V.c)[q]?) → Sfo H → V.sfs H.length st = true → st.length + b.cnt < 1000000 →
  (∀ j', DL K ⟨dT st.length, H.set 2 (stk st j')⟩) → DL K ⟨dT (st.length + 1), H⟩

theorem deep_forest (kids : List Box) (hk : ∀ (i : Nat) (b : Box), kids[i]? = some b → DTree K b) (G : List O) (st : List V) (L : Nat) (hL : G[L]? = some (.box 36 ((Box.rows kids).flatten.map V.c) false)) (hL2 : L ≠ 2) (h2 : 2 < G.length) (hG : Sfo G) (hst : V.sfs G.length st = true) (hb : st.length + Box.cnts kids < 1000000)
    (hK : ∀ j', DL K ⟨dT st.length, G.set 2 (stk st j')⟩) : ∀ (i j : Nat), i ≤ kids.length → DL K ⟨dT (st.length + i), G.set 2 (stk (st ++ ptrs L i) j)⟩
  | 0, j, _ => by
    have : ptrs L 0 = [] := rfl
    rw [this, List.append_nil]
    exact hK j
  | i + 1, j, hi => by
    have hlt : i < kids.length := hi
    obtain ⟨b, hb'⟩ : ∃ b, kids[i]? = some b := ⟨_, List.getElem?_eq_getElem hlt⟩
    have hLl : L < G.length := (List.getElem?_eq_some_iff.1 hL).1
    have := cnts_get kids i b hb'
    have hl : (st ++ ptrs L i).length = st.length + i := by rw [List.length_append, ptrs_len]
    have := hk i b hb' (G.set 2 (stk (st ++ ptrs L (i + 1)) j)) (st ++ ptrs L i) j L (i * 11) 36 _ (by rw [List.getElem?_set_self h2, ptrs_succ, List.append_assoc]) (by rw [List.getElem?_set_ne (fun e => hL2 e.symm)]; exact hL) hL2 (fun q hq => flat_get hb' hq)
      (by intro a o ha ho; rw [List.getElem?_set_ne (fun e => ha e.symm)] at ho; rw [List.length_set]; exact hG a o ha ho) (by rw [List.length_set]; exact sfs_append.2 ⟨hst, ptrs_sf _ hLl hL2⟩) (by rw [hl]; omega)
      (fun j' => by rw [List.set_set, hl]; exact deep_forest kids hk G st L hL hL2 h2 hG hst hb hK i j' (by omega))
    rw [hl] at this
    exact this

theorem deep_tree_leaf (b : Box) (hk0 : b.kids = []) (hd : b.dok) : DTree K b := by
  intro H st j k off ty cs h2 hk hk2 hrow hSf hsf hb hK
  obtain ⟨b0, b1, b2, b3, b4, b5, b6, b7, kids, b9, src⟩ := b
  simp only at hk0
  subst hk0
  have hc8 : cs[off + 8]? = some (.c (.sl [])) := hrow 8 (by omega)
  have hc10 : cs[off + 10]? = some (.c (intsC src)) := hrow 10 (by omega)
  have h2l : 2 < H.length := (List.getElem?_eq_some_iff.1 h2).1
  obtain ⟨_, _, _, hob, hcsf⟩ := hSf k _ hk2 hk
  cases hob
  refine LA.round (deep_leaf H st.length k off ty cs _ src h2 hk hk2 ?_ (by omega) hd.1 hc8 hc10 fun t hl ht => ?_)
  · rw [List.append_assoc, List.getElem?_append_right (Nat.le_refl _)]; simp
  · refine LA.le (Le.stk 2 (.inl rfl) ?_ ⟨stk (st ++ [.ptr k off]) j, _, ?_, List.getElem?_set_self h2l, ?_⟩ (fun a o' ha ho => ?_)) (hK (j + 1))
    · rw [List.length_set]; exact dT_wk h2l hl ht
    · rw [List.getElem?_set_ne hk2]; exact h2
    · rw [List.length_set]
      unfold stk
      rw [List.append_assoc]
      exact ⟨rfl, rfl, Wks.append (Wks_sf hsf (Nat.le_refl _)) (by have := Wks.any (ρ := rho 2) (N := H.length) ([V.ptr k off] ++ List.replicate j .any); simpa [Nat.add_comm] using this)⟩
    · rw [List.getElem?_set_ne (fun e => ha e.symm)] at ho
      rw [List.length_set]
      by_cases e : a = k
      · subst e
        rw [hk] at ho
        cases ho
        exact ⟨_, List.getElem?_set_self (List.getElem?_eq_some_iff.1 hk).1, rfl, rfl, Wks_set_full hc8 hcsf⟩
      · exact ⟨o', by rw [List.getElem?_set_ne (fun h => e h.symm)]; exact ho, Wo_sf (hSf a o' ha ho) (Nat.le_refl _)⟩

theorem toCs_map : ∀ l : List C, toCs (l.map V.c) = some l
  | [] => rfl
  | c :: l => by simp only [List.map_cons, toCs, toC, toCs_map l]
theorem deep_tree_node (b : Box) (hk0 : b.kids ≠ []) (hd : b.dok) (ih : ∀ (i : Nat) (c : Box), b.kids[i]? = some c → DTree K c) : DTree K b := by
  intro H st j k off ty cs h2 hk hk2 hrow hSf hsf hb hK
  obtain ⟨b0, b1, b2, b3, b4, b5, b6, b7, kids, b9, src⟩ := b
  simp only at hk0 ih
  simp only [Box.cnt] at hb
  have hc8 : cs[off + 8]? = some (.c (.sl (Box.rows kids))) := hrow 8 (by omega)
  have hc10 : cs[off + 10]? = some (.c (intsC src)) := hrow 10 (by omega)
  have h2l : 2 < H.length := (List.getElem?_eq_some_iff.1 h2).1
  have hkl : k < H.length := (List.getElem?_eq_some_iff.1 hk).1
  have hrl : (Box.rows kids).length = kids.length := by rw [rows_map]; simp
  have hkp : 0 < kids.length := List.length_pos_iff.2 hk0
  have hcl := cnts_len kids
  obtain ⟨_, _, _, hob, hcsf⟩ := hSf k _ hk2 hk
  cases hob
  refine LA.round (deep_node H st.length k off ty cs src (Box.rows kids) st j rfl h2 hk hk2 (by omega) hd.1 hc8 hc10 (by omega) (by omega) (rows_len' kids) hSf hsf (by omega) fun j' => ?_)
  obtain ⟨H4, hH4⟩ : ∃ H4, H4 = H.set k (O.box ty (cs.set (off + 8) (.own H.length 0 (Box.rows kids).length 11)) false) ++ [O.box 36 ((Box.rows kids).flatten.map V.c) false] := ⟨_, rfl⟩
  have e4 : H4 = (H ++ [O.box 36 ((Box.rows kids).flatten.map V.c) false]).set k (O.box ty (cs.set (off + 8) (.own H.length 0 (Box.rows kids).length 11)) false) := by rw [hH4, List.set_append_left _ _ hkl]
  have l4 : H4.length = H.length + 1 := by rw [hH4]; simp
  have s4 : Sfo H4 := by
    rw [e4]
    refine Sfo.set (Sfo.push hSf (sfs_c _)) (sfs_set ?_ ?_)
    · exact (sfs_bnd (by simp) cs hcsf).2
    · simp [V.sf]; omega
  have L4 : H4[H.length]? = some (.box 36 ((Box.rows kids).flatten.map V.c) false) := by rw [hH4, List.getElem?_append_right (by simp)]; simp
  rw [← hH4]
  have sf4 : V.sfs H4.length st = true := (sfs_bnd (by omega) st hsf).2
  have key := deep_forest kids ih H4 st H.length L4 (by omega) (by omega) s4 sf4 (by omega) (fun j2 => ?_) kids.length j' (Nat.le_refl _)
  · refine LA.le (Le.stk 2 (.inl rfl) ?_ ⟨_, _, List.getElem?_set_self (by omega), List.getElem?_set_self (by omega), ?_⟩ (fun a o' ha ho => ?_)) key
    · rw [List.length_set]
      rw [hrl]
      exact dT_wk (by omega) rfl rfl
    · rw [List.length_set, hrl]
      exact ⟨rfl, rfl, Wks.append (Wks_sf (sfs_append.2 ⟨sf4, ptrs_sf _ (by omega) (by omega)⟩) (Nat.le_refl _)) (by have := Wks.any (ρ := rho 2) (N := H4.length) (List.replicate j' V.any); simpa using this)⟩
    · rw [List.length_set]
      rw [List.getElem?_set_ne (fun e => ha e.symm)] at ho
      exact ⟨o', by rw [List.getElem?_set_ne (fun e => ha e.symm)]; exact ho, Wo_sf (s4 a o' ha ho) (Nat.le_refl _)⟩
  · -- the array of the kids is data, and forgotten
    refine LA.le (Le.trans (Le.freeze H.length (row := (Box.rows kids).flatten) (by rw [List.getElem?_set_ne (by omega)]; exact L4) (toCs_map _)) (Le.stk 2 (.inl rfl) ?_ ⟨O.frz H.length (Box.rows kids).flatten (stk st j2), _, ?_, List.getElem?_set_self h2l, ?_⟩ (fun a o' ha ho => ?_))) (hK j2)
    · rw [List.length_set]
      have : V.frzs H.length (Box.rows kids).flatten (dT st.length) = dT st.length := by
        have h2n : ¬ 2 = H.length := by omega
        have h1n : ¬ 1 = H.length := by omega
        have h0n : ¬ 0 = H.length := by omega
        simp [dT, List.replicate_succ, V.frzs, V.frz, h2n, h1n, h0n]
      rw [this]
      exact dT_wk h2l rfl rfl
    · rw [List.getElem?_map, List.getElem?_set_ne (by omega), List.getElem?_set_self (by omega)]
      rfl
    · rw [List.length_set]
      have hs : V.sfs H.length (st ++ List.replicate j2 .any) = true := sfs_append.2 ⟨hsf, sfs_iff.2 fun v hv => by rw [(List.mem_replicate.1 hv).2]; rfl⟩
      simp only [O.frz, stk]
      rw [sfs_frz (Nat.le_refl _) _ hs]
      exact ⟨rfl, rfl, Wks_sf hs (Nat.le_refl _)⟩
    · rw [List.length_set]
      rw [List.getElem?_set_ne (fun e => ha e.symm)] at ho
      have hal : a < H.length := (List.getElem?_eq_some_iff.1 ho).1
      rw [List.getElem?_map, List.getElem?_set_ne (by omega), List.getElem?_set_ne (fun e => ha e.symm), e4]
      by_cases e : a = k
      · subst e
        rw [hk] at ho
        cases ho
        rw [List.getElem?_set_self (by simp; omega)]
        refine ⟨_, rfl, ?_⟩
        simp only [O.frz]
        have : V.frzs H.length (Box.rows kids).flatten (cs.set (off + 8) (.own H.length 0 (Box.rows kids).length 11)) = cs := by
          rw [frzs_map, List.map_set, ← frzs_map, sfs_frz (Nat.le_refl _) _ hcsf]
          simp only [V.frz, if_true, List.drop_zero]
          rw [chop_rows_eq _ (rows_len' kids)]
          exact set_same hc8
        rw [this]
        exact ⟨rfl, rfl, Wks_sf hcsf (Nat.le_refl _)⟩
      · rw [List.getElem?_set_ne (fun h => e h.symm), List.getElem?_append_left hal, ho]
        obtain ⟨ty', cs', fr', rfl, hs⟩ := hSf a o' ha ho
        refine ⟨_, rfl, ?_⟩
        simp only [O.frz]
        rw [sfs_frz (Nat.le_refl _) _ hs]
        exact ⟨rfl, rfl, Wks_sf hs (Nat.le_refl _)⟩
theorem deep_tree : ∀ (b : Box), b.dok → DTree K b
  | ⟨b0, b1, b2, b3, b4, b5, b6, b7, kids, b9, src⟩, hd => by
    by_cases hk0 : kids = []
    · exact deep_tree_leaf _ hk0 hd
    · refine deep_tree_node _ hk0 hd fun i c hc => ?_
      have hm : c ∈ kids := List.mem_of_getElem? hc
      exact deep_tree c (doks_get kids i c hd.2 hc)
termination_by b => SizeOf.sizeOf b
decreasing_by
  have := List.sizeOf_lt_of_mem hm
  simp only [Box.mk.sizeOf_spec]
  omega
end

/-- deep.Box returns the same box -/
theorem deep_a (b : Box) (hd : b.dok) (hc : b.cnt < 999999) : AC Tryz.prog 22 [boxV b] (boxV b) := by
  obtain ⟨R, hR⟩ : ∃ R, R = b.row.map V.c := ⟨_, rfl⟩
  have hRl : R.length = 11 := by rw [hR, List.length_map, row_len]
  have hfl : R.all V.one = true := by rw [hR]; simp [V.one]
  have hfl2 : ∀ x ∈ R, x.one = true := by simpa using hfl
  unfold boxV
  refine en Tryz.func22 Tryz.ntmps22 ?_
  rw [← hR]
  refine go (cj @hRl <| cj @hfl <| @hfl2) ?_
  with_reducible refine AW.regionS ?_
  refine SW.opX (fun v t => v = .own 2 0 1 1 ∧ t = some (2, .box 97 [.ptr 0 0] false)) (by simp [gate]) ?_ ?_
  · intro S0 w0 x a w g ht hkk
    exact ⟨_, _, fun _ _ h => (by cases h; exact Nat.le_refl _), ⟨rfl, rfl⟩, ok_build_own (P := Tryz.prog) (by_ := 8) g rfl (by simp) (eval_of ht (i := 1) rfl) rfl _ hkk⟩
  rintro v t ⟨rfl, rfl⟩
  simp only [St.step, St.put, updH, List.length_cons, List.length_nil, Nat.reduceAdd, Nat.lt_irrefl, if_false, List.set_cons_succ, List.set_cons_zero, List.cons_append, List.nil_append]
  refine SW.take 1 ?_
  with_reducible refine aops_run (by simp [List.replicate_succ]; first | exact rfl | exact ⟨rfl, rfl⟩) ?_
  refine aops_done ?_
  simp only [List.drop_succ_cons, List.drop_zero]
  refine SW.nil ?_
  with_reducible refine aThen_n ?_
  with_reducible refine AW.seq ?_
  with_reducible refine AW.block ?_
  with_reducible refine LA.loop ?_
  refine LA.le (s' := ⟨dT 1, _⟩) (Le.weak (by simp [subT, dT, List.replicate_succ])) ?_
  refine deep_tree b hd _ [] 0 0 0 36 R rfl rfl (by omega) (fun q hq => by rw [hR, Nat.zero_add]) ?_ rfl (by simp only [List.length_nil]; omega) (fun j' => ?_)
  · intro a o ha ho
    match a, ho with
    | 0, ho => cases ho; exact ⟨_, _, _, rfl, by rw [hR]; exact sfs_c _⟩
    | 1, ho => cases ho; exact ⟨_, _, _, rfl, rfl⟩
    | 2, ho => exact absurd rfl ha
    | a + 3, ho => simp at ho
  · refine LA.round ?_
    conv => arg 3; unfold deepBody
    obtain ⟨b0, b1, b2, b3, b4, b5, b6, b7, kids, b9, src⟩ := b
    simp only [Box.row, List.map_cons, List.map_nil] at hR
    subst hR
    simp only [codeOf, Tryz.f22, dT, List.replicate_succ, List.replicate_zero, List.cons_append, List.nil_append, List.length_nil, List.set_cons_succ, List.set_cons_zero, stk]
    refine go0 ?_
    simp [aRet, ares, aresL, ares1, V.pub, V.pubs, ldV, Tryz.results22, Box.row]
end Go.Proofs.YtnpenchciinmmaaGreat
