import Derived.Test.YthbcljjpmdfflaaGreatGB
import Derived.Test.YthbcljjpmdfflaaGreatVf
/-
 deep.Box on the abstract machine: the copy of a tree.
-/
namespace Go.Proofs.YthbcljjpmdfflaaGreat
open Go.RowKit
set_option linter.unusedSimpArgs false
set_option linter.unusedVariables false
set_option maxRecDepth 100000
mutual
def Box.cnt : Box → Nat
 | ⟨_, _, _, _, _, _, _, _, kids, _, _⟩ => 1 + Box.cnts kids
def Box.cnts : List Box → Nat
 | [] => 0
 | b :: l => b.cnt + Box.cnts l
end
mutual
def Box.dok : Box → Prop
 | ⟨_, _, _, _, _, _, _, _, kids, _, src⟩ => src.length ≤ 1000000 ∧ Box.doks kids
def Box.doks : List Box → Prop
 | [] => True
 | b :: l => b.dok ∧ Box.doks l
end
theorem cnt_pos (b : Box) : 0 < b.cnt := by cases b; simp only [Box.cnt]; omega
theorem cnts_len : ∀ l : List Box, l.length ≤ Box.cnts l
 | [] => Nat.le_refl _
 | b :: l => by have := cnts_len l; have := cnt_pos b; simp only [Box.cnts, List.length_cons]; omega
theorem cnts_get : ∀ (l : List Box) (i : Nat) (b : Box), l[i]? = some b → i + b.cnt ≤ Box.cnts l
 | [], i, b, h => by simp at h
 | x :: l, 0, b, h => by simp at h; subst h; simp only [Box.cnts]; omega
 | x :: l, i + 1, b, h => by have := cnts_get l i b (by simpa using h); have := cnt_pos x; simp only [Box.cnts]; omega
theorem doks_get : ∀ (l : List Box) (i : Nat) (b : Box), Box.doks l → l[i]? = some b → b.dok
 | [], i, b, _, h => by simp at h
 | x :: l, 0, b, hd, h => by simp at h; subst h; exact hd.1
 | x :: l, i + 1, b, hd, h => doks_get l i b hd.2 (by simpa using h)
theorem row_len (b : Box) : b.row.length = 11 := by cases b; rfl
theorem rows_len' (l : List Box) : ∀ r ∈ Box.rows l, r.length = 11 := by
 rw [rows_map]
 intro r hr
 obtain ⟨b, _, rfl⟩ := List.mem_map.1 hr
 exact row_len b
theorem flat_get {l : List Box} {i q : Nat} {b : Box} (h : l[i]? = some b) (hq : q < 11) : ((Box.rows l).flatten.map V.c)[i * 11 + q]? = (b.row.map V.c)[q]? := by
 rw [List.getElem?_map, List.getElem?_map]
 congr 1
 rw [rows_map]
 induction l generalizing i with
 | nil => simp at h
 | cons x l ih =>
   cases i with
   | zero =>
     simp at h
     subst h
     rw [List.map_cons, List.flatten_cons, Nat.zero_mul, Nat.zero_add, List.getElem?_append_left (by rw [row_len]; exact hq)]
   | succ i =>
     rw [List.map_cons, List.flatten_cons, List.getElem?_append_right (by rw [row_len]; omega), row_len, ← ih (i := i) (by simpa using h)]
     congr 1
     omega
theorem Wks_set_full {N : Nat} : ∀ {l : List V} {i : Nat}, l[i]? = some (.c (.sl [])) → V.sfs N l = true → Wks (rho 2) N (l.set i (.full [])) l
 | [], i, h, _ => by simp at h
 | v :: l, 0, h, hs => by
   simp at h
   subst h
   simp only [V.sfs, Bool.and_eq_true] at hs
   exact ⟨.inr (.inr ⟨[], rfl, rfl⟩), Wks_sf hs.2 (Nat.le_refl _)⟩
 | v :: l, i + 1, h, hs => by
   simp only [V.sfs, Bool.and_eq_true] at hs
   rw [List.set_cons_succ]
   exact ⟨.inr (.inl ⟨(sf_ren (N := N) (fun k _ hk => by simp [rho, hk]) v hs.1).symm, (sf_bnd (Nat.le_refl _) v hs.1).1⟩), Wks_set_full (by simpa using h) hs.2⟩
theorem dT_wk {N n : Nat} {t : List V} (hN : 2 < N) (hl : t.length = 71) (ht : t.take 4 = [.any, .ptr 0 0, .ptr 1 0, .own 2 0 n 1]) : Wks (rho 2) N t (dT n) := by
 have e : t = [.any, .ptr 0 0, .ptr 1 0, .own 2 0 n 1] ++ t.drop 4 := by rw [← ht, List.take_append_drop]
 rw [e]
 have e2 : (67 : Nat) = (t.drop 4).length := by rw [List.length_drop, hl]
 unfold dT
 rw [e2]
 refine Wks.append ?_ (Wks.any _)
 have h0 : 0 < N := by omega
 have h1 : 1 < N := by omega
 simp [Wks, Wk, V.ren, V.bnd, rho, hN, h0, h1]
section
variable {K : Exit → St → Prop}
abbrev DL (K : Exit → St → Prop) (s : St) : Prop := LA ⟨none, 0⟩ Tryz.prog deepBody K s
def DTree (K : Exit → St → Prop) (b : Box) : Prop := ∀ (H : List O) (st : List V) (j k off : Nat) (ty : TypeId) (cs : List V), H[2]? = some (stk (st ++ [.ptr k off]) j) → H[k]? = some (.box ty cs false) → k ≠ 2 → (∀ q, q < 11 → cs[off + q]? = (b.row.map V.c)[q]?) → Sfo H → V.sfs H.length st = true → st.length + b.cnt < 1000000 →
 (∀ j', DL K ⟨dT st.length, H.set 2 (stk st j')⟩) → DL K ⟨dT (st.length + 1), H⟩
theorem deep_forest (kids : List Box) (hk : ∀ (i : Nat) (b : Box), kids[i]? = some b → DTree K b) (G : List O) (st : List V) (L : Nat) (hL : G[L]? = some (.box 33 ((Box.rows kids).flatten.map V.c) false)) (hL2 : L ≠ 2) (h2 : 2 < G.length) (hG : Sfo G) (hst : V.sfs G.length st = true) (hb : st.length + Box.cnts kids < 1000000)
 (hK : ∀ j', DL K ⟨dT st.length, G.set 2 (stk st j')⟩) : ∀ (i j : Nat), i ≤ kids.length → DL K ⟨dT (st.length + i), G.set 2 (stk (st ++ ptrs L i) j)⟩
 | 0, j, _ => by
   have : ptrs L 0 = [] := rfl
   rw [this, List.append_nil]
   exact hK j
 | i + 1, j, hi => by
   have hlt : i < kids.length := hi
   obtain ⟨b, hb'⟩ : ∃ b, kids[i]? = some b := ⟨_, List.getElem?_eq_getElem hlt⟩
   have hLl : L < G.length := (List.getElem?_eq_some_iff.1 hL).1
   have := cnts_get kids i b hb'
   have hl : (st ++ ptrs L i).length = st.length + i := by rw [List.length_append, ptrs_len]
   have := hk i b hb' (G.set 2 (stk (st ++ ptrs L (i + 1)) j)) (st ++ ptrs L i) j L (i * 11) 33 _ (by rw [List.getElem?_set_self h2, ptrs_succ, List.append_assoc]) (by rw [List.getElem?_set_ne (fun e => hL2 e.symm)]; exact hL) hL2 (fun q hq => flat_get hb' hq)
    (by intro a o ha ho; rw [List.getElem?_set_ne (fun e => ha e.symm)] at ho; rw [List.length_set]; exact hG a o ha ho) (by rw [List.length_set]; exact sfs_append.2 ⟨hst, ptrs_sf _ hLl hL2⟩) (by rw [hl]; omega)
    (fun j' => by rw [List.set_set, hl]; exact deep_forest kids hk G st L hL hL2 h2 hG hst hb hK i j' (by omega))
   rw [hl] at this
   exact this
theorem deep_tree_leaf (b : Box) (hk0 : b.kids = []) (hd : b.dok) : DTree K b := by
 intro H st j k off ty cs h2 hk hk2 hrow hSf hsf hb hK
 obtain ⟨b0, b1, b2, b3, b4, b5, b6, b7, kids, b9, src⟩ := b
 simp only at hk0
 subst hk0
 have hc8 : cs[off + 8]? = some (.c (.sl [])) := hrow 8 (by omega)
 have hc10 : cs[off + 10]? = some (.c (intsC src)) := hrow 10 (by omega)
 have h2l : 2 < H.length := (List.getElem?_eq_some_iff.1 h2).1
 obtain ⟨_, _, _, hob, hcsf⟩ := hSf k _ hk2 hk
 cases hob
 refine LA.round (deep_leaf H st.length k off ty cs _ src h2 hk hk2 ?_ (by omega) hd.1 hc8 hc10 fun t hl ht => ?_)
 · rw [List.append_assoc, List.getElem?_append_right (Nat.le_refl _)]; simp
 · refine LA.le (Le.stk 2 (.inl rfl) ?_ ⟨stk (st ++ [.ptr k off]) j, _, ?_, List.getElem?_set_self h2l, ?_⟩ (fun a o' ha ho => ?_)) (hK (j + 1))
   · rw [List.length_set]; exact dT_wk h2l hl ht
   · rw [List.getElem?_set_ne hk2]; exact h2
   · rw [List.length_set]
     unfold stk
     rw [List.append_assoc]
     exact ⟨rfl, rfl, Wks.append (Wks_sf hsf (Nat.le_refl _)) (by have := Wks.any (ρ := rho 2) (N := H.length) ([V.ptr k off] ++ List.replicate j .any); simpa [Nat.add_comm] using this)⟩
   · rw [List.getElem?_set_ne (fun e => ha e.symm)] at ho
     rw [List.length_set]
     by_cases e : a = k
     · subst e
       rw [hk] at ho
       cases ho
       exact ⟨_, List.getElem?_set_self (List.getElem?_eq_some_iff.1 hk).1, rfl, rfl, Wks_set_full hc8 hcsf⟩
     · exact ⟨o', by rw [List.getElem?_set_ne (fun h => e h.symm)]; exact ho, Wo_sf (hSf a o' ha ho) (Nat.le_refl _)⟩
theorem toCs_map : ∀ l : List C, toCs (l.map V.c) = some l
 | [] => rfl
 | c :: l => by simp only [List.map_cons, toCs, toC, toCs_map l]
theorem deep_tree_node (b : Box) (hk0 : b.kids ≠ []) (hd : b.dok) (ih : ∀ (i : Nat) (c : Box), b.kids[i]? = some c → DTree K c) : DTree K b := by
 intro H st j k off ty cs h2 hk hk2 hrow hSf hsf hb hK
 obtain ⟨b0, b1, b2, b3, b4, b5, b6, b7, kids, b9, src⟩ := b
 simp only at hk0 ih
 simp only [Box.cnt] at hb
 have hc8 : cs[off + 8]? = some (.c (.sl (Box.rows kids))) := hrow 8 (by omega)
 have hc10 : cs[off + 10]? = some (.c (intsC src)) := hrow 10 (by omega)
 have h2l : 2 < H.length := (List.getElem?_eq_some_iff.1 h2).1
 have hkl : k < H.length := (List.getElem?_eq_some_iff.1 hk).1
 have hrl : (Box.rows kids).length = kids.length := by rw [rows_map]; simp
 have hkp : 0 < kids.length := List.length_pos_iff.2 hk0
 have hcl := cnts_len kids
 obtain ⟨_, _, _, hob, hcsf⟩ := hSf k _ hk2 hk
 cases hob
 refine LA.round (deep_node H st.length k off ty cs src (Box.rows kids) st j rfl h2 hk hk2 (by omega) hd.1 hc8 hc10 (by omega) (by omega) (rows_len' kids) hSf hsf (by omega) fun j' => ?_)
 obtain ⟨H4, hH4⟩ : ∃ H4, H4 = H.set k (O.box ty (cs.set (off + 8) (.own H.length 0 (Box.rows kids).length 11)) false) ++ [O.box 33 ((Box.rows kids).flatten.map V.c) false] := ⟨_, rfl⟩
 have e4 : H4 = (H ++ [O.box 33 ((Box.rows kids).flatten.map V.c) false]).set k (O.box ty (cs.set (off + 8) (.own H.length 0 (Box.rows kids).length 11)) false) := by rw [hH4, List.set_append_left _ _ hkl]
 have l4 : H4.length = H.length + 1 := by rw [hH4]; simp
 have s4 : Sfo H4 := by
  rw [e4]
  refine Sfo.set (Sfo.push hSf (sfs_c _)) (sfs_set ?_ ?_)
  · exact (sfs_bnd (by simp) cs hcsf).2
  · simp [V.sf]; omega
 have L4 : H4[H.length]? = some (.box 33 ((Box.rows kids).flatten.map V.c) false) := by rw [hH4, List.getElem?_append_right (by simp)]; simp
 rw [← hH4]
 have sf4 : V.sfs H4.length st = true := (sfs_bnd (by omega) st hsf).2
 have key := deep_forest kids ih H4 st H.length L4 (by omega) (by omega) s4 sf4 (by omega) (fun j2 => ?_) kids.length j' (Nat.le_refl _)
 · refine LA.le (Le.stk 2 (.inl rfl) ?_ ⟨_, _, List.getElem?_set_self (by omega), List.getElem?_set_self (by omega), ?_⟩ (fun a o' ha ho => ?_)) key
   · rw [List.length_set]
     rw [hrl]
     exact dT_wk (by omega) rfl rfl
   · rw [List.length_set, hrl]
     exact ⟨rfl, rfl, Wks.append (Wks_sf (sfs_append.2 ⟨sf4, ptrs_sf _ (by omega) (by omega)⟩) (Nat.le_refl _)) (by have := Wks.any (ρ := rho 2) (N := H4.length) (List.replicate j' V.any); simpa using this)⟩
   · rw [List.length_set]
     rw [List.getElem?_set_ne (fun e => ha e.symm)] at ho
     exact ⟨o', by rw [List.getElem?_set_ne (fun e => ha e.symm)]; exact ho, Wo_sf (s4 a o' ha ho) (Nat.le_refl _)⟩
 ·
   refine LA.le (Le.trans (Le.freeze H.length (row := (Box.rows kids).flatten) (by rw [List.getElem?_set_ne (by omega)]; exact L4) (toCs_map _)) (Le.stk 2 (.inl rfl) ?_ ⟨O.frz H.length (Box.rows kids).flatten (stk st j2), _, ?_, List.getElem?_set_self h2l, ?_⟩ (fun a o' ha ho => ?_))) (hK j2)
   · rw [List.length_set]
     have : V.frzs H.length (Box.rows kids).flatten (dT st.length) = dT st.length := by
      have h2n : ¬ 2 = H.length := by omega
      have h1n : ¬ 1 = H.length := by omega
      have h0n : ¬ 0 = H.length := by omega
      simp [dT, List.replicate_succ, V.frzs, V.frz, h2n, h1n, h0n]
     rw [this]
     exact dT_wk h2l rfl rfl
   · rw [List.getElem?_map, List.getElem?_set_ne (by omega), List.getElem?_set_self (by omega)]
     rfl
   · rw [List.length_set]
     have hs : V.sfs H.length (st ++ List.replicate j2 .any) = true := sfs_append.2 ⟨hsf, sfs_iff.2 fun v hv => by rw [(List.mem_replicate.1 hv).2]; rfl⟩
     simp only [O.frz, stk]
     rw [sfs_frz (Nat.le_refl _) _ hs]
     exact ⟨rfl, rfl, Wks_sf hs (Nat.le_refl _)⟩
   · rw [List.length_set]
     rw [List.getElem?_set_ne (fun e => ha e.symm)] at ho
     have hal : a < H.length := (List.getElem?_eq_some_iff.1 ho).1
     rw [List.getElem?_map, List.getElem?_set_ne (by omega), List.getElem?_set_ne (fun e => ha e.symm), e4]
     by_cases e : a = k
     · subst e
       rw [hk] at ho
       cases ho
       rw [List.getElem?_set_self (by simp; omega)]
       refine ⟨_, rfl, ?_⟩
       simp only [O.frz]
       have : V.frzs H.length (Box.rows kids).flatten (cs.set (off + 8) (.own H.length 0 (Box.rows kids).length 11)) = cs := by
        rw [frzs_map, List.map_set, ← frzs_map, sfs_frz (Nat.le_refl _) _ hcsf]
        simp only [V.frz, if_true, List.drop_zero]
        rw [chop_rows_eq _ (rows_len' kids)]
        exact set_same hc8
       rw [this]
       exact ⟨rfl, rfl, Wks_sf hcsf (Nat.le_refl _)⟩
     · rw [List.getElem?_set_ne (fun h => e h.symm), List.getElem?_append_left hal, ho]
       obtain ⟨ty', cs', fr', rfl, hs⟩ := hSf a o' ha ho
       refine ⟨_, rfl, ?_⟩
       simp only [O.frz]
       rw [sfs_frz (Nat.le_refl _) _ hs]
       exact ⟨rfl, rfl, Wks_sf hs (Nat.le_refl _)⟩
theorem deep_tree : ∀ (b : Box), b.dok → DTree K b
 | ⟨b0, b1, b2, b3, b4, b5, b6, b7, kids, b9, src⟩, hd => by
   by_cases hk0 : kids = []
   · exact deep_tree_leaf _ hk0 hd
   · refine deep_tree_node _ hk0 hd fun i c hc => ?_
     have hm : c ∈ kids := List.mem_of_getElem? hc
     exact deep_tree c (doks_get kids i c hd.2 hc)
termination_by b => SizeOf.sizeOf b
decreasing_by
 have := List.sizeOf_lt_of_mem hm
 simp only [Box.mk.sizeOf_spec]
 omega
end
theorem deep_a (b : Box) (hd : b.dok) (hc : b.cnt < 999999) : AC Tryz.prog 63 [boxV b] (boxV b) := by
 obtain ⟨R, hR⟩ : ∃ R, R = b.row.map V.c := ⟨_, rfl⟩
 have hRl : R.length = 11 := by rw [hR, List.length_map, row_len]
 have hfl : R.all V.one = true := by rw [hR]; simp [V.one]
 have hfl2 : ∀ x ∈ R, x.one = true := by simpa using hfl
 unfold boxV
 refine en Tryz.func63 Tryz.ntmps63 ?_
 rw [← hR]
 refine go (cj @hRl <| cj @hfl <| @hfl2) ?_
 with_reducible refine AW.regionS ?_
 refine SW.opX (fun v t => v = .own 2 0 1 1 ∧ t = some (2, .box 72 [.ptr 0 0] false)) (by simp [gate]) ?_ ?_
 · intro S0 w0 x a w g ht hkk
   exact ⟨_, _, fun _ _ h => (by cases h; exact Nat.le_refl _), ⟨rfl, rfl⟩, ok_build_own (P := Tryz.prog) (by_ := 8) g rfl (by simp) (eval_of ht (i := 1) rfl) rfl _ hkk⟩
 rintro v t ⟨rfl, rfl⟩
 simp only [St.step, St.put, updH, List.length_cons, List.length_nil, Nat.reduceAdd, Nat.lt_irrefl, if_false, List.set_cons_succ, List.set_cons_zero, List.cons_append, List.nil_append]
 refine SW.take 1 ?_
 with_reducible refine aops_run (by simp [List.replicate_succ]; first | exact rfl | exact ⟨rfl, rfl⟩) ?_
 refine aops_done ?_
 simp only [List.drop_succ_cons, List.drop_zero]
 refine SW.nil ?_
 with_reducible refine aThen_n ?_
 with_reducible refine AW.seq ?_
 with_reducible refine AW.block ?_
 with_reducible refine LA.loop ?_
 refine LA.le (s' := ⟨dT 1, _⟩) (Le.weak (by simp [subT, dT, List.replicate_succ])) ?_
 refine deep_tree b hd _ [] 0 0 0 33 R rfl rfl (by omega) (fun q hq => by rw [hR, Nat.zero_add]) ?_ rfl (by simp only [List.length_nil]; omega) (fun j' => ?_)
 · intro a o ha ho
   match a, ho with
   | 0, ho => cases ho; exact ⟨_, _, _, rfl, by rw [hR]; exact sfs_c _⟩
   | 1, ho => cases ho; exact ⟨_, _, _, rfl, rfl⟩
   | 2, ho => exact absurd rfl ha
   | a + 3, ho => simp at ho
 · refine LA.round ?_
   conv => arg 3; unfold deepBody
   obtain ⟨b0, b1, b2, b3, b4, b5, b6, b7, kids, b9, src⟩ := b
   simp only [Box.row, List.map_cons, List.map_nil] at hR
   subst hR
   simp only [codeOf, Tryz.f63, dT, List.replicate_succ, List.replicate_zero, List.cons_append, List.nil_append, List.length_nil, List.set_cons_succ, List.set_cons_zero, stk]
   refine go0 ?_
   simp [aRet, ares, aresL, ares1, V.pub, V.pubs, ldV, Tryz.results63, Box.row]
end Go.Proofs.YthbcljjpmdfflaaGreat
namespace Go.Proofs.YthbcljjpmdfflaaGreat
open Go.RowKit
def srcOf (o : Int) (n : Nat) : Bool := if o = 0 then decide (n = 0) else if o = 1 then (decide (n % 2 = 0) && decide (n ≤ 48)) else if o = 2 then (decide (n % 2 = 1) && decide (n ≤ 49)) else false
def posB (l : List Int) : Bool := l.all fun n => decide (0 ≤ n)
def Box.srcB (b : Box) : Bool := posB b.src && srcOf b.of_ b.src.length
def Box.lens (b : Box) : List Int := [b.w, b.h, b.d, b.x, b.y]
def Box.kindB (b : Box) : Bool :=
 if b.kind = 1 then nameB b.name && (decide (1 ≤ b.size) && (decide (b.size ≤ 1000) && decide (b.kids.length = 0)))
 else if b.kind = 2 then decide (b.name = ⟨#[]⟩) && (decide (b.size = 0) && decide (b.kids.length = 0))
 else if b.kind = 3 then decide (b.name = ⟨#[]⟩) && decide (b.size = 0)
 else false
def Box.ownB (b : Box) : Bool := b.lens.all lenValid && (b.kindB && b.srcB)
mutual
def Box.propB : Box → Bool
 | ⟨k, n, s, w, h, d, x, y, kids, o, src⟩ => Box.ownB ⟨k, n, s, w, h, d, x, y, kids, o, src⟩ && Box.propsB kids
def Box.propsB : List Box → Bool
 | [] => true
 | b :: l => b.propB && Box.propsB l
end
mutual
def Box.nest : Box → Nat
 | ⟨_, _, _, _, _, _, _, _, kids, _, _⟩ => Box.nests kids + 1
def Box.nests : List Box → Nat
 | [] => 0
 | b :: l => max b.nest (Box.nests l)
end
def Box.validB (b : Box) : Bool := b.propB && (decide (b.cnt ≤ 20000) && decide (b.nest ≤ 100))
mutual
def Box.pv (dep : Nat) : Box → Nat → Bool × Nat
 | ⟨k, n, s, w, h, d, x, y, kids, o, src⟩, c => if 20000 < c + 1 ∨ 100 < dep ∨ Box.ownB ⟨k, n, s, w, h, d, x, y, kids, o, src⟩ = false then (false, c + 1) else Box.pvs (dep + 1) kids (c + 1)
def Box.pvs (dep : Nat) : List Box → Nat → Bool × Nat
 | [], c => (true, c)
 | b :: l, c => if (b.pv dep c).1 = true then Box.pvs dep l (b.pv dep c).2 else (false, (b.pv dep c).2)
end
mutual
theorem pv_eq (dep : Nat) : ∀ (b : Box) (c : Nat), (b.pv dep c).2 ≤ c + b.cnt ∧ ((b.pv dep c).1 = true → (b.pv dep c).2 = c + b.cnt) ∧ ((b.pv dep c).1 = true ↔ b.propB = true ∧ c + b.cnt ≤ 20000 ∧ dep + b.nest ≤ 101)
 | ⟨k, n, s, w, h, d, x, y, kids, o, src⟩, c => by
   have hk := pvs_eq (dep + 1) kids (c + 1)
   simp only [Box.pv, Box.cnt, Box.propB, Box.nest]
   obtain ⟨B, hB⟩ : ∃ B, Box.ownB ⟨k, n, s, w, h, d, x, y, kids, o, src⟩ = B := ⟨_, rfl⟩
   rw [hB]
   have hc := cnts_len kids
   split
   · rename_i hq
     refine ⟨by simp only; omega, fun h => (by cases h), ⟨fun h => (by cases h), fun h => ?_⟩⟩
     simp only [Bool.and_eq_true] at h
     rcases hq with hq | hq | hq
     · omega
     · omega
     · rw [hq] at h; cases h.1.1
   · rename_i hq
     have h1 : B = true := by cases B with
      | true => rfl
      | false => exact absurd (.inr (.inr rfl)) hq
     refine ⟨by omega, fun h => by have := hk.2.1 h; omega, ?_⟩
     rw [hk.2.2, h1, Bool.true_and]
     have hdep : dep ≤ 100 := Nat.le_of_not_lt fun h => hq (.inr (.inl h))
     have hcc : c + 1 ≤ 20000 := Nat.le_of_not_lt fun h => hq (.inl h)
     constructor
     · rintro ⟨a1, a2, a3⟩
       refine ⟨a1, ?_, ?_⟩
       · rcases a2 with a2 | rfl
         · omega
         · simp only [Box.cnts]; omega
       · rcases a3 with rfl | a3
         · simp only [Box.nests]; omega
         · omega
     · rintro ⟨a1, a2, a3⟩
       exact ⟨a1, .inl (by omega), .inr (by omega)⟩
theorem pvs_eq (dep : Nat) : ∀ (l : List Box) (c : Nat), (Box.pvs dep l c).2 ≤ c + Box.cnts l ∧ ((Box.pvs dep l c).1 = true → (Box.pvs dep l c).2 = c + Box.cnts l) ∧ ((Box.pvs dep l c).1 = true ↔ Box.propsB l = true ∧ (c + Box.cnts l ≤ 20000 ∨ l = []) ∧ (l = [] ∨ dep + Box.nests l ≤ 101))
 | [], c => by simp [Box.pvs, Box.cnts, Box.propsB]
 | b :: l, c => by
   have h1 := pv_eq dep b c
   have h2 := pvs_eq dep l (b.pv dep c).2
   have hp := cnt_pos b
   simp only [Box.pvs, Box.cnts, Box.propsB, Box.nests]
   split
   · rename_i hq
     have e := h1.2.1 hq
     rw [e] at h2
     obtain ⟨p1, p2, p3⟩ := h1.2.2.1 hq
     rw [e]
     refine ⟨by omega, fun h => by have := h2.2.1 h; omega, ?_⟩
     rw [h2.2.2, p1, Bool.true_and]
     constructor
     · rintro ⟨a1, a2, a3⟩
       refine ⟨a1, .inl ?_, .inr ?_⟩
       · rcases a2 with a2 | rfl
         · omega
         · simp only [Box.cnts]; omega
       · rcases a3 with rfl | a3
         · simp only [Box.nests]; omega
         · omega
     · rintro ⟨a1, a2, a3⟩
       simp only [reduceCtorEq, or_false, false_or] at a2 a3
       exact ⟨a1, .inl (by omega), .inr (by omega)⟩
   · rename_i hq
     refine ⟨by simp only; omega, fun h => (by cases h), ⟨fun h => (by cases h), fun h => ?_⟩⟩
     simp only [Bool.and_eq_true, reduceCtorEq, or_false, false_or] at h
     exact absurd (h1.2.2.2 ⟨h.1.1, by omega, by omega⟩) hq
end
theorem pv_valid (b : Box) : (b.pv 1 0).1 = b.validB := by
 have h := (pv_eq 1 b 0).2.2
 unfold Box.validB
 rw [Bool.eq_iff_iff, h]
 simp only [Bool.and_eq_true, decide_eq_true_eq]
 constructor
 · rintro ⟨a, b, c⟩; exact ⟨a, by omega, by omega⟩
 · rintro ⟨a, b, c⟩; exact ⟨a, by omega, by omega⟩
mutual
def Box.sizeI : Box → Int → Int
 | ⟨_, _, _, _, _, _, _, _, kids, _, _⟩, m => Box.sizesI kids m 1
def Box.sizesI : List Box → Int → Int → Int
 | [], _, n => n
 | b :: l, m, n => if n < m then Box.sizesI l m (n + b.sizeI (m - n)) else n
end
mutual
theorem sizeI_eq : ∀ (b : Box) (m : Int), 1 ≤ b.sizeI m ∧ b.sizeI m ≤ b.cnt ∧ (b.sizeI m < m → b.sizeI m = b.cnt) ∧ (1 ≤ m → b.sizeI m ≤ m)
 | ⟨_, _, _, _, _, _, _, _, kids, _, _⟩, m => by
   have := sizesI_eq kids m 1
   simp only [Box.sizeI, Box.cnt]
   refine ⟨by omega, by omega, fun h => ?_, fun h => ?_⟩
   · have := this.2.2.1 h; omega
   · exact this.2.2.2 h
theorem sizesI_eq : ∀ (l : List Box) (m n : Int), n ≤ Box.sizesI l m n ∧ Box.sizesI l m n ≤ n + Box.cnts l ∧ (Box.sizesI l m n < m → Box.sizesI l m n = n + Box.cnts l) ∧ (n ≤ m → Box.sizesI l m n ≤ m)
 | [], m, n => by simp [Box.sizesI, Box.cnts]
 | b :: l, m, n => by
   simp only [Box.sizesI, Box.cnts]
   split
   · have h1 := sizeI_eq b (m - n)
     have h2 := sizesI_eq l m (n + b.sizeI (m - n))
     refine ⟨by omega, by omega, fun h => ?_, fun h => ?_⟩
     · have h3 := h2.2.2.1 h
       have h4 := h1.2.2.1 (by omega)
       omega
     · exact h2.2.2.2 (by omega)
   · exact ⟨by omega, by omega, fun h => by omega, fun h => h⟩
end
theorem few_iff (b : Box) : decide (b.sizeI 201 ≤ 200) = decide (b.cnt ≤ 200) := by
 have h := sizeI_eq b 201
 rw [decide_eq_decide]
 constructor
 · intro h1
   have := h.2.2.1 (by omega)
   omega
 · intro h1; omega
end Go.Proofs.YthbcljjpmdfflaaGreat
namespace Go.Proofs.YthbcljjpmdfflaaGreat
open Go.RowKit
set_option linter.unusedSimpArgs false
set_option linter.unusedVariables false
set_option maxRecDepth 100000
theorem bnamed_a (s : ByteArray) (hs : s.size ≤ maxLen) : AC Tryz.prog 87 [.c (.str s)] (.c (.bool (nameB s))) := by
 unfold maxLen at hs
 refine en Tryz.func87 Tryz.ntmps87 ?_
 refine go0 ?_
 refine lp (ι := { k : Nat // k ≤ s.size ∧ s.data.toList.all byteOk = (s.data.toList.drop k).all byteOk }) (fun k => [(3, .c (.int .i64 (k.1 : Int))), (2, .c (.bool false))]) (fun _ => []) (fun k => s.size - k.1) ⟨0, by simp⟩ ?_ ?_
 all_goals simp only [puts, List.foldl_cons, List.foldl_nil, List.set_cons_zero, List.set_cons_succ]
 · refine Le.weak (by simp [subT])
 · rintro ⟨k, hk, hI⟩
   by_cases hlt : k < s.size
   · have hd : s.data.toList.drop k = (s.data[k]'hlt) :: s.data.toList.drop (k + 1) := by rw [List.drop_eq_getElem_cons (by simpa using hlt)]; simp
     rw [hd, List.all_cons] at hI
     obtain ⟨b, hb⟩ : ∃ b, s.data[k]'hlt = b := ⟨_, rfl⟩
     rw [hb] at hI
     have hw : IntKind.i64.wrap ((k : Int) + 1) = ((k + 1 : Nat) : Int) := by rw [wrap_i64 (by omega) (by omega)]; simp
     by_cases h1 : (b.toNat : Int) < 32
     · have e : byteOk b = false := by simp [byteOk]; omega
       refine go (cj @hlt <| cj @hb <| @h1) ?_
       simp [aRet, ares, aresL, ares1, V.pub, V.pubs, ldV, Tryz.results87, nameB, hI, e]
     · by_cases h2 : (126 : Int) < (b.toNat : Int)
       · have e : byteOk b = false := by simp [byteOk]; omega
         refine go (cj @hlt <| cj @hb <| cj @h1 <| @h2) ?_
         simp [aRet, ares, aresL, ares1, V.pub, V.pubs, ldV, Tryz.results87, nameB, hI, e]
       · have e : byteOk b = true := by simp [byteOk]; omega
         refine go (cj @hlt <| cj @hb <| cj @h1 <| cj @h2 <| @hw) ?_
         refine ⟨⟨k + 1, by omega, by rw [hI, e, Bool.true_and]⟩, by simp only; omega, ?_⟩
         refine Le.weak (by simp [subT])
   · have hk' : k = s.size := by omega
     have e : s.data.toList.all byteOk = true := by rw [hI, List.drop_of_length_le (by simp; omega)]; rfl
     have hkk : s.size = s.data.size := rfl
     by_cases h1 : (1 : Int) ≤ (s.size : Int)
     · have hr : nameB s = decide ((s.size : Int) ≤ 16) := by
        unfold nameB
        rw [e, Bool.true_and, decide_eq_true (show 1 ≤ s.size by omega), Bool.true_and, decide_eq_decide]
        omega
       refine go (cj @hlt <| @h1) ?_
       simp [aRet, ares, aresL, ares1, V.pub, V.pubs, ldV, Tryz.results87, hr]
     · have hr : nameB s = false := by
        unfold nameB
        rw [decide_eq_false (show ¬ 1 ≤ s.size by omega), Bool.false_and, Bool.and_false]
       refine go (cj @hlt <| @h1) ?_
       simp [aRet, ares, aresL, ares1, V.pub, V.pubs, ldV, Tryz.results87, hr]
theorem mod2 (n : Nat) (h : n ≤ 9223372036854775807) : IntKind.i64.wrap ((n : Int).tmod 2) = ((n % 2 : Nat) : Int) := by
 have h1 : (n : Int).tmod 2 = ((n % 2 : Nat) : Int) := by rw [Int.tmod_eq_emod_of_nonneg (by omega)]; omega
 rw [h1]
 exact wrap_i64 (by omega) (by omega)
theorem posB_nil : posB [] = true := rfl
theorem psource_a (b0 : Int) (b1 : ByteArray) (b2 b3 b4 b5 b6 b7 : Int) (kids : List Box) (o : Int) (src : List Int) (hs : src.length ≤ maxLen) : AC Tryz.prog 88 [.cp (Box.row ⟨b0, b1, b2, b3, b4, b5, b6, b7, kids, o, src⟩) 0] (.c (.bool (Box.srcB ⟨b0, b1, b2, b3, b4, b5, b6, b7, kids, o, src⟩))) := by
 unfold maxLen at hs
 have hR : Box.srcB ⟨b0, b1, b2, b3, b4, b5, b6, b7, kids, o, src⟩ = (posB src && srcOf o src.length) := rfl
 rw [hR]
 have hm := mod2 src.length hs
 simp only [Box.row]
 refine en Tryz.func88 Tryz.ntmps88 ?_
 refine go @intsC.eq_1 ?_
 refine lp (ι := { k : Nat // k ≤ src.length ∧ posB src = posB (src.drop k) }) (fun k => [(11, .c (.int .i64 (k.1 : Int))), (2, .c (.bool false))]) (fun _ => []) (fun k => src.length - k.1) ⟨0, by simp⟩ ?_ ?_
 all_goals simp only [puts, List.foldl_cons, List.foldl_nil, List.set_cons_zero, List.set_cons_succ]
 · refine Le.weak (by simp [subT])
 · rintro ⟨k, hk, hI⟩
   by_cases hlt : k < src.length
   · rw [List.drop_eq_getElem_cons hlt] at hI
     obtain ⟨z, hz⟩ : ∃ z, src[k] = z := ⟨_, rfl⟩
     rw [hz] at hI
     have hw : IntKind.i64.wrap ((k : Int) + 1) = ((k + 1 : Nat) : Int) := by rw [wrap_i64 (by omega) (by omega)]; simp
     by_cases h1 : z < 0
     · have e : posB src = false := by rw [hI]; simp [posB]; omega
       refine go (cj @hlt <| cj @hz <| @h1) ?_
       simp [aRet, ares, aresL, ares1, V.pub, V.pubs, ldV, Tryz.results88, e]
     · have e : posB src = posB (src.drop (k + 1)) := by rw [hI]; simp [posB]; intro; omega
       refine go (cj @hlt <| cj @hz <| cj @h1 <| @hw) ?_
       refine ⟨⟨k + 1, by omega, e⟩, by simp only; omega, ?_⟩
       refine Le.weak (by simp [subT])
   · have e : posB src = true := by rw [hI, List.drop_of_length_le (by omega)]; rfl
     by_cases o0 : o = 0
     · subst o0
       have hr : srcOf 0 src.length = decide (src.length = 0) := rfl
       refine go (cj @hlt <| @intsC.eq_1) ?_
       simp [aRet, ares, aresL, ares1, V.pub, V.pubs, ldV, Tryz.results88, e, hr]
     · by_cases o1 : o = 1
       · subst o1
         by_cases hp : src.length % 2 = 0
         · have hr : srcOf 1 src.length = decide ((src.length : Int) ≤ 48) := by simp [srcOf, hp]; omega
           refine go (cj @hlt <| cj @intsC.eq_1 <| cj @hm <| @hp) ?_
           simp [aRet, ares, aresL, ares1, V.pub, V.pubs, ldV, Tryz.results88, e, hr]
         · have hr : srcOf 1 src.length = false := by simp [srcOf, hp]
           have hp' : src.length % 2 = 1 := by omega
           refine go (cj @hlt <| cj @intsC.eq_1 <| cj @hm <| @hp') ?_
           simp [aRet, ares, aresL, ares1, V.pub, V.pubs, ldV, Tryz.results88, e, hr]
       · by_cases o2 : o = 2
         · subst o2
           by_cases hp : src.length % 2 = 1
           · have hr : srcOf 2 src.length = decide ((src.length : Int) ≤ 49) := by simp [srcOf, hp]; omega
             refine go (cj @hlt <| cj @intsC.eq_1 <| cj @hm <| @hp) ?_
             simp [aRet, ares, aresL, ares1, V.pub, V.pubs, ldV, Tryz.results88, e, hr]
           · have hr : srcOf 2 src.length = false := by simp [srcOf, hp]
             have hp' : src.length % 2 = 0 := by omega
             refine go (cj @hlt <| cj @intsC.eq_1 <| cj @hm <| @hp') ?_
             simp [aRet, ares, aresL, ares1, V.pub, V.pubs, ldV, Tryz.results88, e, hr]
         · have hr : srcOf o src.length = false := by simp [srcOf, o0, o1, o2]
           refine go (cj @hlt <| cj @intsC.eq_1 <| cj @o0 <| cj @o1 <| @o2) ?_
           simp [aRet, ares, aresL, ares1, V.pub, V.pubs, ldV, Tryz.results88, e, hr]
theorem rsource_a (b0 : Int) (b1 : ByteArray) (b2 b3 b4 b5 b6 b7 : Int) (kids : List Box) (o : Int) (src : List Int) (hs : src.length ≤ maxLen) : AC Tryz.prog 69 [boxV ⟨b0, b1, b2, b3, b4, b5, b6, b7, kids, o, src⟩] (.c (.bool (Box.srcB ⟨b0, b1, b2, b3, b4, b5, b6, b7, kids, o, src⟩))) := by
 unfold maxLen at hs
 have hR : Box.srcB ⟨b0, b1, b2, b3, b4, b5, b6, b7, kids, o, src⟩ = (posB src && srcOf o src.length) := rfl
 rw [hR]
 have hm := mod2 src.length hs
 simp only [boxV, Box.row, List.map_cons, List.map_nil]
 obtain ⟨BC, hBC⟩ : ∃ BC, BC = ([.c (.int .i64 b0), .c (.str b1), .c (.int .i64 b2), .c (.int .i64 b3), .c (.int .i64 b4), .c (.int .i64 b5), .c (.int .i64 b6), .c (.int .i64 b7), .c (.sl (Box.rows kids)), .c (.int .i64 o), .c (intsC src)] : List V) := ⟨_, rfl⟩
 refine en Tryz.func69 Tryz.ntmps69 ?_
 refine go @intsC.eq_1 ?_
 refine lp (ι := { k : Nat // k ≤ src.length ∧ posB src = posB (src.drop k) }) (fun k => [(3, .c (.int .i64 (k.1 : Int))), (2, .c (.bool false))]) (fun _ => [.box 33 BC false]) (fun k => src.length - k.1) ⟨0, by simp⟩ ?_ ?_
 all_goals simp only [puts, List.foldl_cons, List.foldl_nil, List.set_cons_zero, List.set_cons_succ]
 · refine Le.wdrop 1 (Nat.le_of_ble_eq_true rfl) (by simp [subT, hBC, intsC]) (by simp [hBC, intsC]) (by simp [V.bnds, V.bnd]) (by simp [O.bnd, V.bnds, V.bnd, hBC, intsC])
 · rintro ⟨k, hk, hI⟩
   by_cases hlt : k < src.length
   · rw [List.drop_eq_getElem_cons hlt] at hI
     obtain ⟨z, hz⟩ : ∃ z, src[k] = z := ⟨_, rfl⟩
     rw [hz] at hI
     have hw : IntKind.i64.wrap ((k : Int) + 1) = ((k + 1 : Nat) : Int) := by rw [wrap_i64 (by omega) (by omega)]; simp
     by_cases h1 : z < 0
     · have e : posB src = false := by rw [hI]; simp [posB]; omega
       refine go (cj @hBC <| cj @intsC.eq_1 <| cj @hlt <| cj @hz <| @h1) ?_
       simp [aRet, ares, aresL, ares1, V.pub, V.pubs, ldV, Tryz.results69, e]
     · have e : posB src = posB (src.drop (k + 1)) := by rw [hI]; simp [posB]; intro; omega
       refine go (cj @hBC <| cj @intsC.eq_1 <| cj @hlt <| cj @hz <| cj @h1 <| @hw) ?_
       refine ⟨⟨k + 1, by omega, e⟩, by simp only; omega, ?_⟩
       refine Le.wdrop 1 (Nat.le_of_ble_eq_true rfl) (by simp [subT, hBC, intsC]) (by simp [hBC, intsC]) (by simp [V.bnds, V.bnd]) (by simp [O.bnd, V.bnds, V.bnd, hBC, intsC])
   · have e : posB src = true := by rw [hI, List.drop_of_length_le (by omega)]; rfl
     by_cases o0 : o = 0
     · subst o0
       have hr : srcOf 0 src.length = decide (src.length = 0) := rfl
       refine go (cj @hBC <| cj @intsC.eq_1 <| @hlt) ?_
       simp [aRet, ares, aresL, ares1, V.pub, V.pubs, ldV, Tryz.results69, e, hr]
     · by_cases o1 : o = 1
       · subst o1
         by_cases hp : src.length % 2 = 0
         · have hr : srcOf 1 src.length = decide ((src.length : Int) ≤ 48) := by simp [srcOf, hp]; omega
           refine go (cj @hBC <| cj @intsC.eq_1 <| cj @hlt <| cj @hm <| @hp) ?_
           simp [aRet, ares, aresL, ares1, V.pub, V.pubs, ldV, Tryz.results69, e, hr]
         · have hr : srcOf 1 src.length = false := by simp [srcOf, hp]
           have hp' : src.length % 2 = 1 := by omega
           refine go (cj @hBC <| cj @intsC.eq_1 <| cj @hlt <| cj @hm <| @hp') ?_
           simp [aRet, ares, aresL, ares1, V.pub, V.pubs, ldV, Tryz.results69, e, hr]
       · by_cases o2 : o = 2
         · subst o2
           by_cases hp : src.length % 2 = 1
           · have hr : srcOf 2 src.length = decide ((src.length : Int) ≤ 49) := by simp [srcOf, hp]; omega
             refine go (cj @hBC <| cj @intsC.eq_1 <| cj @hlt <| cj @hm <| @hp) ?_
             simp [aRet, ares, aresL, ares1, V.pub, V.pubs, ldV, Tryz.results69, e, hr]
           · have hr : srcOf 2 src.length = false := by simp [srcOf, hp]
             have hp' : src.length % 2 = 0 := by omega
             refine go (cj @hBC <| cj @intsC.eq_1 <| cj @hlt <| cj @hm <| @hp') ?_
             simp [aRet, ares, aresL, ares1, V.pub, V.pubs, ldV, Tryz.results69, e, hr]
         · have hr : srcOf o src.length = false := by simp [srcOf, o0, o1, o2]
           refine go (cj @hBC <| cj @intsC.eq_1 <| cj @hlt <| cj @o0 <| cj @o1 <| @o2) ?_
           simp [aRet, ares, aresL, ares1, V.pub, V.pubs, ldV, Tryz.results69, e, hr]
end Go.Proofs.YthbcljjpmdfflaaGreat
namespace Go.Proofs.YthbcljjpmdfflaaGreat
open Go.RowKit
set_option linter.unusedSimpArgs false
set_option linter.unusedVariables false
set_option maxRecDepth 100000
theorem cnts_take : ∀ (l : List Box) (k : Nat) (h : k < l.length), Box.cnts (l.take (k + 1)) = Box.cnts (l.take k) + (l[k]).cnt
 | [], k, h => by simp at h
 | b :: l, 0, h => by simp [Box.cnts]
 | b :: l, k + 1, h => by simp only [List.take_succ_cons, Box.cnts, List.getElem_cons_succ]; rw [cnts_take l k (by simpa using h)]; omega
theorem cnts_le : ∀ (l : List Box) (k : Nat), Box.cnts (l.take k) ≤ Box.cnts l
 | [], k => by simp [Box.cnts]
 | b :: l, 0 => by simp [Box.cnts]
 | b :: l, k + 1 => by have := cnts_le l k; simp only [List.take_succ_cons, Box.cnts]; omega
theorem cnts_mem : ∀ (l : List Box) (b : Box), b ∈ l → b.cnt ≤ Box.cnts l
 | [], b, h => by cases h
 | x :: l, b, h => by
   simp only [Box.cnts]
   rcases List.mem_cons.1 h with rfl | h
   · omega
   · have := cnts_mem l b h; omega
theorem nests_take : ∀ (l : List Box) (k : Nat) (h : k < l.length), Box.nests (l.take (k + 1)) = max (Box.nests (l.take k)) (l[k]).nest
 | [], k, h => by simp at h
 | b :: l, 0, h => by simp [Box.nests]
 | b :: l, k + 1, h => by simp only [List.take_succ_cons, Box.nests, List.getElem_cons_succ]; rw [nests_take l k (by simpa using h)]; omega
mutual
theorem nest_cnt : ∀ b : Box, b.nest ≤ b.cnt
 | ⟨_, _, _, _, _, _, _, _, kids, _, _⟩ => by have := nests_cnts kids; simp only [Box.nest, Box.cnt]; omega
theorem nests_cnts : ∀ l : List Box, Box.nests l ≤ Box.cnts l
 | [] => Nat.le_refl _
 | b :: l => by have := nest_cnt b; have := nests_cnts l; simp only [Box.nests, Box.cnts]; omega
end
theorem rcount_step (b0 : Int) (b1 : ByteArray) (b2 b3 b4 b5 b6 b7 : Int) (kids : List Box) (o : Int) (src : List Int) (hc : Box.cnt ⟨b0, b1, b2, b3, b4, b5, b6, b7, kids, o, src⟩ ≤ 1000000) (ih : ∀ c ∈ kids, AC Tryz.prog 36 [boxV c] (.c (.int .i64 (c.cnt : Int)))) : AC Tryz.prog 36 [boxV ⟨b0, b1, b2, b3, b4, b5, b6, b7, kids, o, src⟩] (.c (.int .i64 (Box.cnt ⟨b0, b1, b2, b3, b4, b5, b6, b7, kids, o, src⟩ : Int))) := by
 have hR : Box.cnt ⟨b0, b1, b2, b3, b4, b5, b6, b7, kids, o, src⟩ = 1 + Box.cnts kids := rfl
 rw [hR] at hc ⊢
 have hkl := cnts_len kids
 simp only [boxV, Box.row, List.map_cons, List.map_nil]
 rw [rows_map]
 obtain ⟨BC, hBC⟩ : ∃ BC, BC = ([.c (.int .i64 b0), .c (.str b1), .c (.int .i64 b2), .c (.int .i64 b3), .c (.int .i64 b4), .c (.int .i64 b5), .c (.int .i64 b6), .c (.int .i64 b7), .c (.sl (kids.map Box.row)), .c (.int .i64 o), .c (intsC src)] : List V) := ⟨_, rfl⟩
 refine en Tryz.func36 Tryz.ntmps36 ?_
 refine go0 ?_
 refine lp (ι := { k : Nat // k ≤ kids.length }) (fun k => [(3, .c (.int .i64 ((1 + Box.cnts (kids.take k.1) : Nat) : Int))), (4, .c (.int .i64 (k.1 : Int)))]) (fun _ => [.box 33 BC false]) (fun k => kids.length - k.1) ⟨0, by simp⟩ ?_ ?_
 all_goals simp only [puts, List.foldl_cons, List.foldl_nil, List.set_cons_zero, List.set_cons_succ]
 · refine Le.wdrop 1 (Nat.le_of_ble_eq_true rfl) (by simp [subT, hBC, intsC, Box.cnts]) (by simp [hBC, intsC, Box.cnts]) (by simp [V.bnds, V.bnd]) (by simp [O.bnd, V.bnds, V.bnd, hBC, intsC, Box.cnts])
 · rintro ⟨j, hj⟩
   have hjl := cnts_le kids j
   by_cases hlj : j < kids.length
   · obtain ⟨c, hcc⟩ : ∃ c, kids[j] = c := ⟨_, rfl⟩
     have ihc := ih c (hcc ▸ List.getElem_mem hlj)
     have hrl : c.row.length = 11 := by cases c; rfl
     have hw : IntKind.i64.wrap ((j : Int) + 1) = ((j + 1 : Nat) : Int) := by rw [wrap_i64 (by omega) (by omega)]; simp
     have ht := cnts_take kids j hlj
     rw [hcc] at ht
     have hjl' := cnts_le kids (j + 1)
     have hws : IntKind.i64.wrap (((1 + Box.cnts (kids.take j) : Nat) : Int) + (c.cnt : Int)) = ((1 + Box.cnts (kids.take (j + 1)) : Nat) : Int) := by rw [wrap_i64 (by omega) (by omega), ht]; omega
     obtain ⟨N, hN⟩ : ∃ N, c.cnt = N := ⟨_, rfl⟩
     obtain ⟨M, hM⟩ : ∃ M : Int, ((1 + Box.cnts (kids.take j) : Nat) : Int) = M := ⟨_, rfl⟩
     rw [hN] at ihc
     rw [hN, hM] at hws
     rw [hM]
     obtain ⟨ck, cn, cs, cw, ch, cd, cx, cy, ckids, co, csrc⟩ := c
     simp only [boxV, Box.row, List.map_cons, List.map_nil] at ihc
     refine go (cj @hBC <| cj @hlj <| cj @hcc <| @Box.row.eq_1) ?_
     refine gc @hws (ihc) Tryz.func36 ?_
     refine go (cj @hBC <| @hw) ?_
     refine ⟨⟨j + 1, by omega⟩, by simp only; omega, ?_⟩
     refine Le.wdrop 1 (Nat.le_of_ble_eq_true rfl) (by simp [subT, hBC, intsC]) (by simp [hBC, intsC]) (by simp [V.bnds, V.bnd]) (by simp [O.bnd, V.bnds, V.bnd, hBC, intsC])
   · have e : kids.take j = kids := List.take_of_length_le (by omega)
     rw [e]
     refine go (cj @hBC <| @hlj) ?_
     simp [aRet, ares, aresL, ares1, V.pub, V.pubs, ldV, Tryz.results36]
theorem rcount_n : ∀ (n : Nat) (b : Box), SizeOf.sizeOf b < n → b.cnt ≤ 1000000 → AC Tryz.prog 36 [boxV b] (.c (.int .i64 (b.cnt : Int)))
 | 0, b, h, _ => absurd h (by omega)
 | n + 1, ⟨b0, b1, b2, b3, b4, b5, b6, b7, kids, o, src⟩, hn, hfit => by
   have hq := hfit
   simp only [Box.cnt] at hq
   exact rcount_step b0 b1 b2 b3 b4 b5 b6 b7 kids o src hfit fun c hc => rcount_n n c (by
    have := List.sizeOf_lt_of_mem hc
    simp only [Box.mk.sizeOf_spec] at hn
    omega) (by have := cnts_mem kids c hc; omega)
theorem rcount_a (b : Box) (h : b.cnt ≤ 1000000) : AC Tryz.prog 36 [boxV b] (.c (.int .i64 (b.cnt : Int))) := rcount_n (SizeOf.sizeOf b + 1) b (by omega) h
theorem rnest_step (b0 : Int) (b1 : ByteArray) (b2 b3 b4 b5 b6 b7 : Int) (kids : List Box) (o : Int) (src : List Int) (hc : Box.cnt ⟨b0, b1, b2, b3, b4, b5, b6, b7, kids, o, src⟩ ≤ 1000000) (ih : ∀ c ∈ kids, AC Tryz.prog 37 [boxV c] (.c (.int .i64 (c.nest : Int)))) : AC Tryz.prog 37 [boxV ⟨b0, b1, b2, b3, b4, b5, b6, b7, kids, o, src⟩] (.c (.int .i64 (Box.nest ⟨b0, b1, b2, b3, b4, b5, b6, b7, kids, o, src⟩ : Int))) := by
 have hR : Box.nest ⟨b0, b1, b2, b3, b4, b5, b6, b7, kids, o, src⟩ = Box.nests kids + 1 := rfl
 have hR' : Box.cnt ⟨b0, b1, b2, b3, b4, b5, b6, b7, kids, o, src⟩ = 1 + Box.cnts kids := rfl
 rw [hR'] at hc
 rw [hR]
 have hkl := cnts_len kids
 have hnl := nests_cnts kids
 simp only [boxV, Box.row, List.map_cons, List.map_nil]
 rw [rows_map]
 obtain ⟨BC, hBC⟩ : ∃ BC, BC = ([.c (.int .i64 b0), .c (.str b1), .c (.int .i64 b2), .c (.int .i64 b3), .c (.int .i64 b4), .c (.int .i64 b5), .c (.int .i64 b6), .c (.int .i64 b7), .c (.sl (kids.map Box.row)), .c (.int .i64 o), .c (intsC src)] : List V) := ⟨_, rfl⟩
 refine en Tryz.func37 Tryz.ntmps37 ?_
 refine go0 ?_
 refine lp (ι := { k : Nat // k ≤ kids.length }) (fun k => [(3, .c (.int .i64 ((Box.nests (kids.take k.1) : Nat) : Int))), (4, .c (.int .i64 (k.1 : Int)))]) (fun _ => [.box 33 BC false]) (fun k => kids.length - k.1) ⟨0, by simp⟩ ?_ ?_
 all_goals simp only [puts, List.foldl_cons, List.foldl_nil, List.set_cons_zero, List.set_cons_succ]
 · refine Le.wdrop 1 (Nat.le_of_ble_eq_true rfl) (by simp [subT, hBC, intsC, Box.nests]) (by simp [hBC, intsC, Box.nests]) (by simp [V.bnds, V.bnd]) (by simp [O.bnd, V.bnds, V.bnd, hBC, intsC, Box.nests])
 · rintro ⟨j, hj⟩
   by_cases hlj : j < kids.length
   · obtain ⟨c, hcc⟩ : ∃ c, kids[j] = c := ⟨_, rfl⟩
     have ihc := ih c (hcc ▸ List.getElem_mem hlj)
     have hrl : c.row.length = 11 := by cases c; rfl
     have hw : IntKind.i64.wrap ((j : Int) + 1) = ((j + 1 : Nat) : Int) := by rw [wrap_i64 (by omega) (by omega)]; simp
     have ht := nests_take kids j hlj
     rw [hcc] at ht
     have hws : (if ((Box.nests (kids.take j) : Nat) : Int) < (c.nest : Int) then (c.nest : Int) else ((Box.nests (kids.take j) : Nat) : Int)) = ((Box.nests (kids.take (j + 1)) : Nat) : Int) := by rw [ht]; split <;> omega
     obtain ⟨N, hN⟩ : ∃ N : Int, (c.nest : Int) = N := ⟨_, rfl⟩
     obtain ⟨M, hM⟩ : ∃ M : Int, ((Box.nests (kids.take j) : Nat) : Int) = M := ⟨_, rfl⟩
     rw [hN] at ihc
     rw [hN, hM] at hws
     rw [hM]
     obtain ⟨ck, cn, cs, cw, ch, cd, cx, cy, ckids, co, csrc⟩ := c
     simp only [boxV, Box.row, List.map_cons, List.map_nil] at ihc
     refine go (cj @hBC <| cj @hlj <| cj @hcc <| @Box.row.eq_1) ?_
     refine gc @hws (ihc) Tryz.func37 ?_
     refine go (cj @hBC <| @hw) ?_
     refine ⟨⟨j + 1, by omega⟩, by simp only; omega, ?_⟩
     refine Le.wdrop 1 (Nat.le_of_ble_eq_true rfl) (by simp [subT, hBC, intsC]) (by simp [hBC, intsC]) (by simp [V.bnds, V.bnd]) (by simp [O.bnd, V.bnds, V.bnd, hBC, intsC])
   · have e : kids.take j = kids := List.take_of_length_le (by omega)
     have hw : IntKind.i64.wrap ((Box.nests kids : Int) + 1) = ((Box.nests kids + 1 : Nat) : Int) := by rw [wrap_i64 (by omega) (by omega)]; simp
     rw [e]
     refine go (cj @hBC <| cj @hlj <| @hw) ?_
     simp [aRet, ares, aresL, ares1, V.pub, V.pubs, ldV, Tryz.results37]
theorem rnest_n : ∀ (n : Nat) (b : Box), SizeOf.sizeOf b < n → b.cnt ≤ 1000000 → AC Tryz.prog 37 [boxV b] (.c (.int .i64 (b.nest : Int)))
 | 0, b, h, _ => absurd h (by omega)
 | n + 1, ⟨b0, b1, b2, b3, b4, b5, b6, b7, kids, o, src⟩, hn, hfit => by
   have hq := hfit
   simp only [Box.cnt] at hq
   exact rnest_step b0 b1 b2 b3 b4 b5 b6 b7 kids o src hfit fun c hc => rnest_n n c (by
    have := List.sizeOf_lt_of_mem hc
    simp only [Box.mk.sizeOf_spec] at hn
    omega) (by have := cnts_mem kids c hc; omega)
theorem rnest_a (b : Box) (h : b.cnt ≤ 1000000) : AC Tryz.prog 37 [boxV b] (.c (.int .i64 (b.nest : Int))) := rnest_n (SizeOf.sizeOf b + 1) b (by omega) h
end Go.Proofs.YthbcljjpmdfflaaGreat
