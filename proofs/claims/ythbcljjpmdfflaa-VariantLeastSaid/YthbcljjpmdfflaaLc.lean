/-
  Layer 6's laws: plain Lean: what Choose and Box compute answers as the laws say.
-/
import Derived.Test.YthbcljjpmdfflaaLa
namespace Go.Proofs.Ythbcljjpmdfflaa
open Go.RowKit
set_option linter.unusedSimpArgs false
set_option linter.unusedVariables false
set_option maxRecDepth 100000

theorem boxR_err (f : Font) (name : ByteArray) (c : Choice) (p : Int) : (boxR f name c p).2 = if checkR f p ≠ 0 then checkR f p else if isR f name c = false then 8 else 0 := by
  unfold boxR
  split
  · rfl
  · split
    · rfl
    · split <;> rfl
theorem scale_bd {n p : Int} (h1 : -1000000000 ≤ n) (h2 : n ≤ 1000000000) (h3 : 0 ≤ p) (h4 : p ≤ 100) : -1000000001 ≤ scale n p ∧ scale n p ≤ 1000000001 := by
  rw [← rnd_scale (by omega) (by omega) h3 (by omega)]
  have m := mul_bound n p 1000000000 100 (by omega) (by omega) h3 h4
  unfold rnd
  split <;> omega
theorem boxR_height (f : Font) (name : ByteArray) (c : Choice) (p : Int) : (boxR f name c p).1.h + (boxR f name c p).1.d = (if checkR f p ≠ 0 then 0 else if isR f name c = false then 0 else heightI f name c p) ∧ -2000000000 ≤ (boxR f name c p).1.h + (boxR f name c p).1.d ∧ (boxR f name c p).1.h + (boxR f name c p).1.d ≤ 2000000000 := by
  unfold boxR
  by_cases hc : checkR f p = 0
  · obtain ⟨hv, hp1, hp2⟩ := check_zero hc
    simp only [hc, ne_eq, not_true_eq_false, if_false]
    cases hi : isR f name c with
    | false => simp [Box.zero]
    | true =>
      simp only [Bool.true_eq_false, if_false]
      obtain ⟨cg, cr⟩ := c
      by_cases h0 : cr = 0
      · subst h0
        obtain ⟨e1, e2⟩ := sizedR_eq hv hp1 hp2 cg
        have hb := scaled_b hv hp1 hp2 cg
        simp only [if_true, heightI, sizeH, e1, e2, glyphBox]
        refine ⟨trivial, by omega, by omega⟩
      · obtain ⟨s, hst, hpn, r1, r2, _⟩ := isR_rep h0 hi
        have hs := (stretchO_mem hst).1
        obtain ⟨tb1, tb2⟩ := tallI_bound hv hs r1 r2
        have := scale_bd (n := tallI f s cr) (p := p) tb1 tb2 (by omega) hp2
        simp only [h0, if_false, heightI, hst, Option.getD_some, asmBox]
        refine ⟨by omega, by omega, by omega⟩
  · simp [hc, Box.zero]
theorem boxR_wrap (f : Font) (name : ByteArray) (c : Choice) (p : Int) : IntKind.i64.wrap ((boxR f name c p).1.h + (boxR f name c p).1.d) = (if checkR f p ≠ 0 then 0 else if isR f name c = false then 0 else heightI f name c p) := by
  obtain ⟨h1, h2, h3⟩ := boxR_height f name c p
  rw [wrap_i64 (by omega) (by omega), h1]

theorem fs_some {f : Font} {p need : Int} : ∀ {l : List ByteArray} {n : ByteArray}, firstSize f p need l = some n → ∃ j : Nat, l[j]? = some n ∧ need ≤ sizeH f n p ∧ ∀ (i : Nat) (m : ByteArray), i < j → l[i]? = some m → sizeH f m p < need
  | [], n, h => by simp [firstSize] at h
  | x :: r, n, h => by
    simp only [firstSize] at h
    split at h
    · simp only [Option.some.injEq] at h
      subst h
      exact ⟨0, rfl, by assumption, fun i m hi => by omega⟩
    · rename_i hx
      obtain ⟨j, h1, h2, h3⟩ := fs_some h
      refine ⟨j + 1, by simpa using h1, h2, fun i m hi hm => ?_⟩
      match i, hm with
      | 0, hm => simp at hm; subst hm; omega
      | i + 1, hm => exact h3 i m (by omega) (by simpa using hm)
theorem fs_none {f : Font} {p need : Int} : ∀ {l : List ByteArray}, firstSize f p need l = none → ∀ m ∈ l, sizeH f m p < need
  | [], _, m, hm => by cases hm
  | x :: r, h, m, hm => by
    simp only [firstSize] at h
    split at h
    · cases h
    · rcases List.mem_cons.1 hm with rfl | hm
      · omega
      · exact fs_none h m hm
theorem srch_ok (f : Font) (s : Stretch) (p need : Int) : ∀ k : Nat, 1000 - (k : Int) ≤ srch f s p need k ∧ srch f s p need k ≤ 1000 ∧ (∀ r : Int, 1000 - (k : Int) ≤ r → r < srch f s p need k → scale (tallI f s r) p < need) ∧ (srch f s p need k < 1000 → need ≤ scale (tallI f s (srch f s p need k)) p)
  | 0 => by simp [srch]; intro r h1 h2; omega
  | k + 1 => by
    obtain ⟨h1, h2, h3, h4⟩ := srch_ok f s p need k
    simp only [srch]
    split
    · rename_i h
      refine ⟨by push_cast; omega, by omega, fun r h5 h6 => by push_cast at h5; omega, fun _ => h⟩
    · rename_i h
      refine ⟨by push_cast; omega, h2, fun r h5 h6 => ?_, h4⟩
      by_cases e : r = 1000 - ((k : Int) + 1)
      · subst e; omega
      · exact h3 r (by push_cast at h5; omega) h6
theorem hasS_mem {x : ByteArray} : ∀ {l : List ByteArray}, x ∈ l → hasS x l = true
  | y :: r, h => by
    simp only [hasS]
    split
    · rfl
    · rename_i hne
      rcases List.mem_cons.1 h with rfl | h
      · exact absurd rfl hne
      · exact hasS_mem h
theorem mem_of_get {α : Type} {l : List α} {i : Nat} {x : α} (h : l[i]? = some x) : x ∈ l := List.mem_of_getElem? h
theorem choose_is {f : Font} (hv : f.valid = true) (name : ByteArray) (need p : Int) : isR f name (chooseI f name need p) = true := by
  cases hst : f.stretch name with
  | none =>
    have e : chooseI f name need p = ⟨name, 0⟩ := by unfold chooseI; rw [hst]
    rw [e]
    unfold isR
    rw [hst]
    simp
  | some s =>
    obtain ⟨g1, _⟩ := good_of hv (stretchO_mem hst).1
    cases hf : firstSize f p need s.sizes with
    | some n =>
      have e : chooseI f name need p = ⟨n, 0⟩ := by unfold chooseI; rw [hst]; simp only [chooseS]; rw [hf]
      obtain ⟨j, h1, _⟩ := fs_some hf
      rw [e]
      unfold isR
      rw [hst]
      simp only [if_true]
      exact hasS_mem (mem_of_get h1)
    | none =>
      by_cases hp : s.parts = []
      · have hlt : s.sizes.length - 1 < s.sizes.length := by omega
        have e : chooseI f name need p = ⟨s.sizes[s.sizes.length - 1], 0⟩ := by
          unfold chooseI
          rw [hst]
          simp only [chooseS]
          rw [hf]
          simp only [hp, if_true]
          rw [List.getD_eq_getElem?_getD, List.getElem?_eq_getElem hlt]
          rfl
        rw [e]
        unfold isR
        rw [hst]
        simp only [if_true]
        exact hasS_mem (List.getElem_mem hlt)
      · have e : chooseI f name need p = ⟨⟨#[]⟩, srch f s p need 999⟩ := by unfold chooseI; rw [hst]; simp only [chooseS]; rw [hf]; simp only [hp, if_false]
        obtain ⟨h1, h2, _⟩ := srch_ok f s p need 999
        have hl : 0 < s.parts.length := List.length_pos_iff.2 hp
        have h1' : 1 ≤ srch f s p need 999 := by omega
        have h0 : ¬ srch f s p need 999 = 0 := by omega
        rw [e]
        unfold isR
        rw [hst]
        simp [h0, hl, h1', h2]
/-- the height of what is found -/
def foundH (f : Font) (name : ByteArray) (need p : Int) : Int := heightI f name (chooseI f name need p) p
theorem find_height {f : Font} {p : Int} (hc : checkR f p = 0) (name : ByteArray) (need : Int) : (findR f name need p).2 = 0 ∧ (findR f name need p).1.h + (findR f name need p).1.d = foundH f name need p ∧ -2000000000 ≤ foundH f name need p ∧ foundH f name need p ≤ 2000000000 := by
  obtain ⟨hv, _, _⟩ := check_zero hc
  have e : findR f name need p = boxR f name (chooseI f name need p) p := by unfold findR; rw [if_neg (by simp [hc])]
  obtain ⟨h1, h2, h3⟩ := boxR_height f name (chooseI f name need p) p
  have he := boxR_err f name (chooseI f name need p) p
  rw [if_neg (by simp [hc]), if_neg (by simp [choose_is hv])] at h1 he
  rw [e]
  unfold foundH
  exact ⟨he, h1, by omega, by omega⟩
/-- what is found is high enough, or nothing is -/
theorem covers {f : Font} (hv : f.valid = true) {name : ByteArray} {need p : Int} {s : Stretch} (hst : f.stretch name = some s) (h : foundH f name need p < need) : (∀ m ∈ s.sizes, sizeH f m p < need) ∧ (s.parts ≠ [] → scale (tallI f s 1000) p < need) := by
  unfold foundH chooseI at h
  rw [hst] at h
  simp only [chooseS] at h
  cases hf : firstSize f p need s.sizes with
  | some n =>
    rw [hf] at h
    obtain ⟨j, h1, h2, _⟩ := fs_some hf
    simp only [heightI, if_true] at h
    omega
  | none =>
    rw [hf] at h
    refine ⟨fs_none hf, fun hp => ?_⟩
    obtain ⟨h1, h2, h3, h4⟩ := srch_ok f s p need 999
    have h0 : ¬ srch f s p need 999 = 0 := by push_cast at h1; omega
    simp only [hp, if_false, heightI, h0, hst, Option.getD_some] at h
    by_cases e : srch f s p need 999 = 1000
    · rw [e] at h; exact h
    · have := h4 (by omega); omega
theorem grows {f : Font} (hv : f.valid = true) (name : ByteArray) {lo hi p : Int} (hle : lo ≤ hi) (h : hi ≤ foundH f name hi p) : foundH f name lo p ≤ foundH f name hi p := by
  unfold foundH chooseI at h ⊢
  cases hst : f.stretch name with
  | none => simp [heightI]
  | some s =>
    rw [hst] at h
    simp only [chooseS] at h ⊢
    have key : ∀ m ∈ s.sizes, firstSize f p hi s.sizes = none → sizeH f m p < hi := fun m hm hn => fs_none hn m hm
    cases hl : firstSize f p lo s.sizes with
    | some n =>
      obtain ⟨j, h1, h2, h3⟩ := fs_some hl
      simp only [heightI, if_true]
      cases hh : firstSize f p hi s.sizes with
      | some m =>
        obtain ⟨i, k1, k2, k3⟩ := fs_some hh
        simp only [if_true]
        rcases Nat.lt_trichotomy i j with hij | hij | hij
        · have := h3 i m hij k1; omega
        · subst hij; rw [h1] at k1; cases k1; omega
        · have := k3 j n hij h1; omega
      | none =>
        rw [hh] at h
        have h5 := key n (mem_of_get h1) hh
        simp only [heightI] at h ⊢
        omega
    | none =>
      have hh : firstSize f p hi s.sizes = none := by
        cases hh : firstSize f p hi s.sizes with
        | none => rfl
        | some m =>
          obtain ⟨i, k1, k2, k3⟩ := fs_some hh
          have := fs_none hl m (mem_of_get k1)
          omega
      rw [hh] at h ⊢
      by_cases hp : s.parts = []
      · simp [hp]
      · obtain ⟨a1, a2, a3, a4⟩ := srch_ok f s p lo 999
        obtain ⟨b1, b2, b3, b4⟩ := srch_ok f s p hi 999
        have h0 : ¬ srch f s p lo 999 = 0 := by push_cast at a1; omega
        have h0' : ¬ srch f s p hi 999 = 0 := by push_cast at b1; omega
        simp only [hp, if_false, heightI, h0, h0', hst, Option.getD_some] at h ⊢
        rcases Int.lt_trichotomy (srch f s p lo 999) (srch f s p hi 999) with e | e | e
        · have := b3 _ a1 e; omega
        · rw [e]; omega
        · have := a3 _ b1 e; omega
end Go.Proofs.Ythbcljjpmdfflaa
