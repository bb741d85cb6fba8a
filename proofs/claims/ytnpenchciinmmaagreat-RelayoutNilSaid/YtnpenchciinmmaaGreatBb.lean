/-
  deep.Box on the abstract machine: states, weaker states.
-/
import Derived.Test.YtnpenchciinmmaaGreatBa
import Derived.Test.YtnpenchciinmmaaGreatTz
namespace Go.Proofs.YtnpenchciinmmaaGreat
open Go.RowKit
set_option linter.unusedSimpArgs false
set_option linter.unusedVariables false
set_option maxRecDepth 100000

mutual
/-- it names objects below N alone, and not the second one -/
def V.sf (N : Nat) : V → Bool
  | .ptr k _ => decide (k < N) && decide (k ≠ 2)
  | .own k _ _ _ => decide (k < N) && decide (k ≠ 2)
  | .gr k _ _ => decide (k < N) && decide (k ≠ 2)
  | .hot k _ _ => decide (k < N) && decide (k ≠ 2)
  | .hp k _ _ => decide (k < N) && decide (k ≠ 2)
  | .mp _ => false
  | .agg l => V.sfs N l
  | .tup l => V.sfs N l
  | .fn _ l => V.sfs N l
  | .any => true
  | .c _ => true
  | .cp _ _ => true
  | .full _ => true
  | .yl _ => true
def V.sfs (N : Nat) : List V → Bool
  | [] => true
  | v :: l => v.sf N && V.sfs N l
end
mutual
theorem sf_ren {N : Nat} {ρ : Nat → Nat} (hρ : ∀ k, k < N → k ≠ 2 → ρ k = k) : ∀ v : V, v.sf N = true → v.ren ρ = v
  | .ptr k _, h => by simp only [V.sf, Bool.and_eq_true, decide_eq_true_eq] at h; simp only [V.ren, hρ k h.1 h.2]
  | .own k _ _ _, h => by simp only [V.sf, Bool.and_eq_true, decide_eq_true_eq] at h; simp only [V.ren, hρ k h.1 h.2]
  | .gr k _ _, h => by simp only [V.sf, Bool.and_eq_true, decide_eq_true_eq] at h; simp only [V.ren, hρ k h.1 h.2]
  | .hot k _ _, h => by simp only [V.sf, Bool.and_eq_true, decide_eq_true_eq] at h; simp only [V.ren, hρ k h.1 h.2]
  | .hp k _ _, h => by simp only [V.sf, Bool.and_eq_true, decide_eq_true_eq] at h; simp only [V.ren, hρ k h.1 h.2]
  | .mp _, h => by simp [V.sf] at h
  | .agg l, h => by simp only [V.sf] at h; simp only [V.ren, sfs_ren hρ l h]
  | .tup l, h => by simp only [V.sf] at h; simp only [V.ren, sfs_ren hρ l h]
  | .fn _ l, h => by simp only [V.sf] at h; simp only [V.ren, sfs_ren hρ l h]
  | .any, _ => rfl
  | .c _, _ => rfl
  | .cp _ _, _ => rfl
  | .full _, _ => rfl
  | .yl _, _ => rfl
theorem sfs_ren {N : Nat} {ρ : Nat → Nat} (hρ : ∀ k, k < N → k ≠ 2 → ρ k = k) : ∀ l : List V, V.sfs N l = true → V.rens ρ l = l
  | [], _ => rfl
  | v :: l, h => by simp only [V.sfs, Bool.and_eq_true] at h; simp only [V.rens, sf_ren hρ v h.1, sfs_ren hρ l h.2]
end
mutual
theorem sf_bnd {N M : Nat} (hM : N ≤ M) : ∀ v : V, v.sf N = true → v.bnd M = true ∧ v.sf M = true
  | .ptr k _, h => by simp only [V.sf, V.bnd, Bool.and_eq_true, decide_eq_true_eq] at h ⊢; omega
  | .own k _ _ _, h => by simp only [V.sf, V.bnd, Bool.and_eq_true, decide_eq_true_eq] at h ⊢; omega
  | .gr k _ _, h => by simp only [V.sf, V.bnd, Bool.and_eq_true, decide_eq_true_eq] at h ⊢; omega
  | .hot k _ _, h => by simp only [V.sf, V.bnd, Bool.and_eq_true, decide_eq_true_eq] at h ⊢; omega
  | .hp k _ _, h => by simp only [V.sf, V.bnd, Bool.and_eq_true, decide_eq_true_eq] at h ⊢; omega
  | .mp _, h => by simp [V.sf] at h
  | .agg l, h => by simp only [V.sf, V.bnd] at h ⊢; exact sfs_bnd hM l h
  | .tup l, h => by simp only [V.sf, V.bnd] at h ⊢; exact sfs_bnd hM l h
  | .fn _ l, h => by simp only [V.sf, V.bnd] at h ⊢; exact sfs_bnd hM l h
  | .any, _ => ⟨rfl, rfl⟩
  | .c _, _ => ⟨rfl, rfl⟩
  | .cp _ _, _ => ⟨rfl, rfl⟩
  | .full _, _ => ⟨rfl, rfl⟩
  | .yl _, _ => ⟨rfl, rfl⟩
theorem sfs_bnd {N M : Nat} (hM : N ≤ M) : ∀ l : List V, V.sfs N l = true → V.bnds M l = true ∧ V.sfs M l = true
  | [], _ => ⟨rfl, rfl⟩
  | v :: l, h => by
    simp only [V.sfs, Bool.and_eq_true] at h
    have h1 := sf_bnd hM v h.1
    have h2 := sfs_bnd hM l h.2
    simp only [V.bnds, V.sfs, h1.1, h1.2, h2.1, h2.2, Bool.and_self, and_self]
end
mutual
theorem sf_frz {N L : Nat} {row : List C} (hL : N ≤ L) : ∀ v : V, v.sf N = true → v.frz L row = v
  | .ptr k _, h => by simp only [V.sf, Bool.and_eq_true, decide_eq_true_eq] at h; simp only [V.frz]; rw [if_neg (by omega)]
  | .own k _ _ _, h => by simp only [V.sf, Bool.and_eq_true, decide_eq_true_eq] at h; simp only [V.frz]; rw [if_neg (by omega)]
  | .gr k _ _, h => rfl
  | .hot k _ _, h => rfl
  | .hp k _ _, h => rfl
  | .mp _, h => by simp [V.sf] at h
  | .agg l, h => by simp only [V.sf] at h; simp only [V.frz, sfs_frz hL l h]
  | .tup l, h => by simp only [V.sf] at h; simp only [V.frz, sfs_frz hL l h]
  | .fn _ l, h => by simp only [V.sf] at h; simp only [V.frz, sfs_frz hL l h]
  | .any, _ => rfl
  | .c _, _ => rfl
  | .cp _ _, _ => rfl
  | .full _, _ => rfl
  | .yl _, _ => rfl
theorem sfs_frz {N L : Nat} {row : List C} (hL : N ≤ L) : ∀ l : List V, V.sfs N l = true → V.frzs L row l = l
  | [], _ => rfl
  | v :: l, h => by simp only [V.sfs, Bool.and_eq_true] at h; simp only [V.frzs, sf_frz hL v h.1, sfs_frz hL l h.2]
end
theorem sfs_iff {N : Nat} : ∀ {l : List V}, V.sfs N l = true ↔ ∀ v ∈ l, v.sf N = true
  | [] => by simp [V.sfs]
  | v :: l => by simp only [V.sfs, Bool.and_eq_true, sfs_iff (l := l), List.forall_mem_cons]
theorem sfs_append {N : Nat} {l k : List V} : V.sfs N (l ++ k) = true ↔ V.sfs N l = true ∧ V.sfs N k = true := by
  simp only [sfs_iff, List.mem_append]
  exact ⟨fun h => ⟨fun v hv => h v (.inl hv), fun v hv => h v (.inr hv)⟩, fun h v hv => hv.elim (h.1 v) (h.2 v)⟩
theorem sfs_set {N : Nat} {l : List V} {i : Nat} {v : V} (h : V.sfs N l = true) (hv : v.sf N = true) : V.sfs N (l.set i v) = true := by
  rw [sfs_iff] at h ⊢
  intro u hu
  rcases List.mem_or_eq_of_mem_set hu with hu | rfl
  · exact h u hu
  · exact hv
theorem sfs_c {N : Nat} (l : List C) : V.sfs N (l.map V.c) = true := by
  rw [sfs_iff]
  intro v hv
  obtain ⟨c, _, rfl⟩ := List.mem_map.1 hv
  rfl
theorem frzs_append {k : Nat} {row : List C} : ∀ (l m : List V), V.frzs k row (l ++ m) = V.frzs k row l ++ V.frzs k row m
  | [], m => rfl
  | v :: l, m => by simp only [List.cons_append, V.frzs, frzs_append l m]
theorem frzs_map {k : Nat} {row : List C} : ∀ (l : List V), V.frzs k row l = l.map (V.frz k row)
  | [] => rfl
  | v :: l => by simp only [V.frzs, List.map_cons, frzs_map l]

def rho (q i : Nat) : Nat := if i = 2 then q else i
theorem Wks_sf {q N M : Nat} {l : List V} (h : V.sfs N l = true) (hM : N ≤ M) : Wks (rho q) M l l :=
  Wks.same (sfs_ren (N := N) (fun k _ hk => by simp [rho, hk]) l h) (sfs_bnd hM l h).1
theorem Le.stk {t t' : List V} {g h : List O} (q : Nat) (hq : q = 2 ∨ h.length ≤ q) (ht : Wks (rho q) h.length t t') (h2 : ∃ o o', g[q]? = some o ∧ h[2]? = some o' ∧ Wo (rho q) h.length o o')
    (hh : ∀ i o', i ≠ 2 → h[i]? = some o' → ∃ o, g[i]? = some o ∧ Wo (rho q) h.length o o') : Le ⟨none, 0⟩ ⟨t, g⟩ ⟨t', h⟩ := by
  refine Le.ren (rho q) (fun i j hi hj e => ?_) ht (fun i o' ho => ?_)
  · unfold rho at e
    by_cases e1 : i = 2
    · by_cases e2 : j = 2
      · omega
      · rw [if_pos e1, if_neg e2] at e; omega
    · by_cases e2 : j = 2
      · rw [if_neg e1, if_pos e2] at e; omega
      · rw [if_neg e1, if_neg e2] at e; exact e
  · by_cases e : i = 2
    · subst e
      obtain ⟨o, o2, h3, h4, h5⟩ := h2
      rw [h4] at ho
      cases ho
      exact ⟨o, by simpa [rho] using h3, h5⟩
    · obtain ⟨o, h3, h4⟩ := hh i o' e ho
      exact ⟨o, by simpa [rho, e] using h3, h4⟩

/-- all objects but the second are boxes that name objects of the list alone, and not the second one -/
def Sfo (h : List O) : Prop := ∀ (i : Nat) (o : O), i ≠ 2 → h[i]? = some o → ∃ ty cs fr, o = .box ty cs fr ∧ V.sfs h.length cs = true
theorem Wo_sf {q N M : Nat} {o : O} (h : ∃ ty cs fr, o = .box ty cs fr ∧ V.sfs N cs = true) (hM : N ≤ M) : Wo (rho q) M o o := by
  obtain ⟨ty, cs, fr, rfl, h⟩ := h
  exact ⟨rfl, rfl, Wks_sf h hM⟩
theorem Sfo.set {h : List O} (hs : Sfo h) {k : Nat} {ty : TypeId} {cs : List V} {fr : Bool} (hc : V.sfs h.length cs = true) : Sfo (h.set k (.box ty cs fr)) := by
  intro i o hi ho
  rw [List.getElem?_set] at ho
  rw [List.length_set]
  by_cases e : k = i
  · subst e
    rw [if_pos rfl] at ho
    split at ho
    · cases ho; exact ⟨ty, cs, fr, rfl, hc⟩
    · cases ho
  · rw [if_neg e] at ho
    exact hs i o hi ho
theorem Sfo.push {h : List O} (hs : Sfo h) {ty : TypeId} {cs : List V} {fr : Bool} (hc : V.sfs h.length cs = true) : Sfo (h ++ [.box ty cs fr]) := by
  intro i o hi ho
  rw [List.length_append, List.length_singleton]
  rcases Nat.lt_trichotomy i h.length with hl | hl | hl
  · rw [List.getElem?_append_left hl] at ho
    obtain ⟨ty, cs, fr, rfl, h1⟩ := hs i o hi ho
    exact ⟨ty, cs, fr, rfl, (sfs_bnd (Nat.le_succ _) cs h1).2⟩
  · subst hl
    rw [List.getElem?_append_right (Nat.le_refl _)] at ho
    simp at ho
    subst ho
    exact ⟨ty, cs, fr, rfl, (sfs_bnd (Nat.le_succ _) cs hc).2⟩
  · rw [List.getElem?_append_right (by omega), List.getElem?_eq_none (by simp; omega)] at ho
    cases ho

/-- the code of a loop in such a place -/
def codeOf : Option Code → Code
  | some (.seq _ (.seq _ (.seq (.loop c) _))) => c
  | some (.seq _ (.seq _ (.seq (.block _ (.loop c)) _))) => c
  | some (.seq _ (.seq _ (.seq c _))) => c
  | _ => .skip
def stk (st : List V) (j : Nat) : O := .box 97 (st ++ List.replicate j .any) false
def dT (n : Nat) : List V := [.any, .ptr 0 0, .ptr 1 0, .own 2 0 n 1] ++ List.replicate 67 .any
def dS (h : List O) (st : List V) (j : Nat) : St := ⟨dT st.length, h.set 2 (stk st j)⟩
end Go.Proofs.YtnpenchciinmmaaGreat
