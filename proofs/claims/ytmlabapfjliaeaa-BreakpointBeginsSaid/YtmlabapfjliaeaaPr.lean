/-
  Layer 43's laws in plain words: the first items below a number; the classes of a beginning of a row.
-/
import Derived.Test.YtmlabapfjliaeaaPo
namespace Go.Proofs.Ytmlabapfjliaeaa
open Go.RowKit
set_option linter.unusedSimpArgs false
set_option linter.unusedVariables false

def belI (L : List Int) (m : Int) : List Int := L.takeWhile fun x => decide (x < m)
theorem plcs_split (cls : List Int) (m : Nat) : ∀ k : Nat, ∃ t, plcs cls (m + k) = plcs cls m ++ t ∧ ∀ x ∈ t, (m : Int) ≤ x
  | 0 => ⟨[], by simp, by simp⟩
  | k + 1 => by
    obtain ⟨t, h1, h2⟩ := plcs_split cls m k
    refine ⟨t ++ (if permB cls (m + k) = true then [((m + k : Nat) : Int)] else []), ?_, ?_⟩
    · rw [← Nat.add_assoc]
      simp only [plcs, h1, List.append_assoc]
    · intro x hx
      rcases List.mem_append.1 hx with hx | hx
      · exact h2 x hx
      · split at hx
        · simp at hx; omega
        · simp at hx
theorem plcs_lt (cls : List Int) : ∀ m : Nat, ∀ x ∈ plcs cls (m + 1), 0 ≤ x ∧ x < ((m + 1 : Nat) : Int)
  | 0, x, hx => by simp [plcs, permB_0] at hx; omega
  | m + 1, x, hx => by
    simp only [plcs] at hx
    rcases List.mem_append.1 hx with hx | hx
    · have := plcs_lt cls m x (by simpa only [plcs] using hx)
      omega
    · split at hx
      · simp at hx; omega
      · simp at hx
theorem plcs_0 (cls : List Int) (n : Nat) : ∃ t, plcs cls n = 0 :: t := by
  obtain ⟨t, h, _⟩ := plcs_split cls 0 n
  rw [Nat.zero_add] at h
  exact ⟨t, by rw [h]; rfl⟩
theorem takeWhile_app {α : Type} {p : α → Bool} : ∀ {a b : List α}, (∀ x ∈ a, p x = true) → (∀ x ∈ b, p x = false) → (a ++ b).takeWhile p = a
  | [], [], _, _ => rfl
  | [], y :: b, _, h => by simp [h y List.mem_cons_self]
  | x :: a, b, h, h2 => by
    rw [List.cons_append, List.takeWhile_cons, h x List.mem_cons_self, if_pos rfl, takeWhile_app (fun y hy => h y (List.mem_cons_of_mem _ hy)) h2]
theorem bel_plcs (cls : List Int) (n m : Nat) (h : m ≤ n) : belI (plcs cls n) (m : Int) = if m = 0 then [] else plcs cls m := by
  unfold belI
  cases m with
  | zero =>
    rw [if_pos rfl]
    obtain ⟨t, h⟩ := plcs_0 cls n
    rw [h]
    simp
  | succ m =>
    rw [if_neg (by omega)]
    obtain ⟨t, h1, h2⟩ := plcs_split cls (m + 1) (n - (m + 1))
    rw [show m + 1 + (n - (m + 1)) = n by omega] at h1
    rw [h1]
    refine takeWhile_app (fun x hx => ?_) (fun x hx => ?_)
    · have := plcs_lt cls m x hx
      simp; omega
    · have := h2 x hx
      simp; omega
theorem plcs_congr {cls cls' : List Int} : ∀ m : Nat, (∀ i, i < m → cls.getD i 0 = cls'.getD i 0) → plcs cls m = plcs cls' m
  | 0, _ => rfl
  | m + 1, h => by
    have e : permB cls m = permB cls' m := by
      unfold permB
      cases m with
      | zero => rfl
      | succ j =>
        rw [h (j + 1) (by omega), show j + 1 - 1 = j by omega, h j (by omega)]
    simp only [plcs, e, plcs_congr m fun i hi => h i (by omega)]
theorem getD_set_ne {l : List Int} {i j : Nat} (v : Int) (h : i ≠ j) : (l.set i v).getD j 0 = l.getD j 0 := by
  rw [List.getD_eq_getElem?_getD, List.getD_eq_getElem?_getD, List.getElem?_set_ne h]
theorem getD_app {l r : List Int} {j : Nat} (h : j < l.length) : (l ++ r).getD j 0 = l.getD j 0 := by
  rw [List.getD_eq_getElem?_getD, List.getD_eq_getElem?_getD, List.getElem?_append_left h]
theorem stepC_keep (d : List Int) (c : Int) (i : Nat) (h : i + 1 < d.length) : (stepC d c).getD i 0 = d.getD i 0 := by
  unfold stepC
  split
  · exact getD_app (by omega)
  · split
    · rw [getD_app (by rw [List.length_set]; omega), getD_set_ne _ (by omega)]
    · exact getD_app (by omega)
theorem foldl_keep : ∀ (l d : List Int) (i : Nat), i + 1 < d.length → (l.foldl stepC d).getD i 0 = d.getD i 0
  | [], d, i, _ => rfl
  | c :: r, d, i, h => by
    rw [List.foldl_cons, foldl_keep r _ i (by rw [stepC_len]; omega), stepC_keep d c i h]
theorem finC_keep (d : List Int) (i : Nat) (h : i + 1 < d.length) : (finC d).getD i 0 = d.getD i 0 := by
  unfold finC
  split
  · exact getD_set_ne _ (by omega)
  · rfl
theorem rowC_take (own : List Int) (k i : Nat) (hk : k ≤ own.length) (h : i + 1 < k) : (rowC own).getD i 0 = (rowC (own.take k)).getD i 0 := by
  have h1 : (foldC own).getD i 0 = (foldC (own.take k)).getD i 0 := by
    have e : foldC own = (own.drop k).foldl stepC (foldC (own.take k)) := by
      unfold foldC
      rw [← List.foldl_append, List.take_append_drop]
    rw [e]
    exact foldl_keep _ _ i (by rw [foldC_len, List.length_take]; omega)
  unfold rowC
  rw [finC_keep _ i (by rw [foldC_len]; omega), h1, finC_keep _ i (by rw [foldC_len, List.length_take]; omega)]
theorem formsB_take (k : Int) : ∀ (l : List Nd) (j : Nat), Nd.formsB k l = true → Nd.formsB k (l.take j) = true
  | [], j, h => by simpa using h
  | b :: l, 0, _ => rfl
  | b :: l, j + 1, h => by
    simp only [Nd.formsB, List.take_succ_cons, Bool.and_eq_true] at h ⊢
    exact ⟨h.1, formsB_take k l j h.2⟩
theorem ndeps_tle : ∀ (l : List Nd) (k : Nat), Nd.deps (l.take k) ≤ Nd.deps l
  | [], k => by simp [Nd.deps]
  | x :: l, 0 => by simp [Nd.deps]
  | x :: l, k + 1 => by simp only [List.take_succ_cons, Nd.deps]; have := ndeps_tle l k; omega
theorem valid_take (l : List Nd) (k : Nat) (h : (rowN l).validB = true) : (rowN (l.take k)).validB = true := by
  unfold Nd.validB rowN Nd.formB Nd.cnt Nd.dep kidsB at *
  simp only [Bool.and_eq_true, decide_eq_true_eq] at h ⊢
  obtain ⟨h1, ⟨⟨h2, h3⟩, h4⟩, h5, h6⟩ := h
  have e1 : ¬ (1 : Int) = 12 := by decide
  have e0 : ¬ (0 : Int) ≠ 0 := by decide
  rw [if_neg e1, if_neg e0, if_pos trivial] at h3 ⊢
  have a := ncnts_tle l k
  have b := ndeps_tle l k
  refine ⟨h1, ⟨⟨h2, ?_⟩, formsB_take 1 l k h4⟩, by omega, by omega⟩
  simp at h3 ⊢
  omega
theorem okks_take : ∀ (l : List Nd) (k : Nat), Nd.okks l → Nd.okks (l.take k)
  | [], k, h => by simpa using h
  | b :: l, 0, _ => trivial
  | b :: l, k + 1, h => ⟨h.1, okks_take l k h.2⟩
theorem okk_take (l : List Nd) (k : Nat) (h : (rowN l).okk) : (rowN (l.take k)).okk := ⟨h.1, by have := h.2.1; rw [List.length_take]; omega, okks_take l k h.2.2⟩
/-- the first items of a beginning -/
theorem begins_eq (d : List En) (l : List Nd) (k : Nat) (hk : k + 1 ≤ l.length) (hv : (rowN l).validB = true) (hd : dictB d = true) :
    belI (plcR d l).1 (k : Int) = belI (plcR d (l.take (k + 1))).1 (k : Int) := by
  have hv2 := valid_take l (k + 1) hv
  have hl : (l.take (k + 1)).length = k + 1 := by rw [List.length_take]; omega
  have c1 : clsR d l = (rowC (ownC d l), 0) := by unfold clsR; rw [if_neg (by rw [hd, hv]; simp)]
  have c2 : clsR d (l.take (k + 1)) = (rowC (ownC d (l.take (k + 1))), 0) := by unfold clsR; rw [if_neg (by rw [hd, hv2]; simp)]
  have p1 : (plcR d l).1 = plcs (rowC (ownC d l)) l.length := by unfold plcR; rw [c1, if_neg (by simp), if_neg (by omega)]
  have p2 : (plcR d (l.take (k + 1))).1 = plcs (rowC (ownC d (l.take (k + 1)))) (k + 1) := by unfold plcR; rw [c2, if_neg (by simp), if_neg (by omega), hl]
  rw [p1, p2, bel_plcs _ _ _ (by omega), bel_plcs _ _ _ (by omega)]
  split
  · rfl
  · refine plcs_congr k fun i hi => ?_
    have e : ownC d (l.take (k + 1)) = (ownC d l).take (k + 1) := by unfold ownC; rw [List.map_take]
    rw [e]
    exact rowC_take _ _ i (by rw [ownC_len]; omega) (by omega)
/-! the pointer of the second law -/
theorem plcs_at (cls : List Int) (n i : Nat) (h1 : 1 ≤ i) (h : i < n) : ((plcs cls n)[(plcs cls i).length]? = some (i : Int)) ↔ permB cls i = true := by
  obtain ⟨t, e1, e2⟩ := plcs_split cls (i + 1) (n - (i + 1))
  rw [show i + 1 + (n - (i + 1)) = n by omega] at e1
  rw [e1]
  simp only [plcs]
  cases hb : permB cls i with
  | true =>
    rw [if_pos rfl, List.append_assoc, List.getElem?_append_right (Nat.le_refl _)]
    simp
  | false =>
    rw [if_neg (by simp), List.append_nil, List.getElem?_append_right (Nat.le_refl _)]
    simp only [Nat.sub_self, Bool.false_eq_true, iff_false]
    intro h
    have := e2 _ (List.mem_of_getElem? h)
    omega
theorem plcs_pos (cls : List Int) : ∀ n, 1 ≤ (plcs cls n).length
  | 0 => Nat.le_refl _
  | n + 1 => by have := plcs_pos cls n; simp only [plcs, List.length_append]; omega
theorem plcs_mono (cls : List Int) (i n : Nat) (h : i ≤ n) : (plcs cls i).length ≤ (plcs cls n).length := by
  obtain ⟨t, e1, _⟩ := plcs_split cls i (n - i)
  rw [show i + (n - i) = n by omega] at e1
  rw [e1, List.length_append]; omega
/-- no binary operator stands behind a relation -/
def adjP (d : List Int) : Prop := ∀ i, i + 1 < d.length → d.getD (i + 1) 0 = 2 → ¬ d.getD i 0 = 3
theorem getD_end {l : List Int} {c : Int} : (l ++ [c]).getD l.length 0 = c := by
  rw [List.getD_eq_getElem?_getD, List.getElem?_append_right (Nat.le_refl _)]; simp
theorem getD_set_eq {l : List Int} {i : Nat} (v : Int) (h : i < l.length) : (l.set i v).getD i 0 = v := by
  rw [List.getD_eq_getElem?_getD, List.getElem?_set_self h]; rfl
theorem stepC_adj {d : List Int} (c : Int) (h : adjP d) : adjP (stepC d c) := by
  intro i hi h2
  rw [stepC_len] at hi
  by_cases hlt : i + 1 < d.length
  · by_cases hl2 : i + 2 < d.length
    · rw [stepC_keep d c (i + 1) hl2] at h2
      rw [stepC_keep d c i (by omega)]
      exact h i hlt h2
    · rw [stepC_keep d c i (by omega)]
      have hl3 : i + 1 = d.length - 1 := by omega
      unfold stepC at h2
      split at h2
      · rw [getD_app hlt] at h2; exact h i hlt h2
      · split at h2
        · rw [getD_app (by rw [List.length_set]; exact hlt), hl3, getD_set_eq 0 (by omega)] at h2
          cases h2
        · rw [getD_app hlt] at h2; exact h i hlt h2
  · have he : i + 1 = d.length := by omega
    unfold stepC at h2 ⊢
    split at h2
    · rw [he, getD_end] at h2; cases h2
    · rename_i hq
      split at h2
      · rename_i hc
        have hls : i + 1 = (d.set (d.length - 1) 0).length := by rw [List.length_set]; exact he
        rw [hls, getD_end] at h2
        rw [h2] at hc
        cases hc.1
      · rename_i hc
        rw [if_neg hq, if_neg hc]
        rw [he, getD_end] at h2
        rw [getD_app (by omega)]
        intro h3
        refine hq ⟨h2, .inr ?_⟩
        have : lastI d = d.getD i 0 := by unfold lastI; rw [show d.length - 1 = i by omega]
        rw [this, h3]; rfl
theorem foldl_adj : ∀ (l d : List Int), adjP d → adjP (l.foldl stepC d)
  | [], d, h => h
  | c :: r, d, h => foldl_adj r _ (stepC_adj c h)
theorem rowC_adj (own : List Int) : adjP (rowC own) := by
  have h : adjP (foldC own) := foldl_adj own [] (fun i hi => by simp at hi)
  unfold rowC
  generalize foldC own = d at h
  unfold finC
  split
  · intro i hi h2
    rw [List.length_set] at hi
    by_cases e : i + 1 = d.length - 1
    · rw [e, getD_set_eq 0 (by omega)] at h2; cases h2
    · rw [getD_set_ne _ (by omega)] at h2 ⊢
      exact h i hi h2
  · exact h
theorem clsR_adj {d : List En} {l : List Nd} (h : (clsR d l).2 = 0) : adjP (clsR d l).1 := by
  unfold clsR at h ⊢
  split at h
  · cases h
  · rename_i hq
    rw [if_neg hq]
    exact rowC_adj _
end Go.Proofs.Ytmlabapfjliaeaa
