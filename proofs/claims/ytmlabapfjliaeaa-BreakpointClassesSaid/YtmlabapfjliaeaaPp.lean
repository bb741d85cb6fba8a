/-
  The abstract machine: a slice of data that is full gets a room, so that a loop may append to it.
-/
import Derived.Test.YtmlabapfjliaeaaG4
namespace Go.Proofs.Ytmlabapfjliaeaa
open Go.RowKit
set_option linter.unusedSimpArgs false
set_option linter.unusedVariables false

theorem tokVoidN {S0 : Area} {w0 : Bs} {x : Cx} {w : World} {h : List O} (g : Good S0 w0 x w (fun k => h[k]?)) (ety : TypeId) (es n : Nat) :
    Good S0 w0 (x.grow h.length ⟨0, 0, true, n, true⟩ 0) w (fun k => (h ++ [O.tok ety es n])[k]?) ∧ Ext x (x.grow h.length ⟨0, 0, true, n, true⟩ 0) w w := by
  have hk : ¬ x.dom h.length := fun hd => by obtain ⟨o, ho⟩ := g.dom _ hd; simp at ho
  have he : Ext x (x.grow h.length ⟨0, 0, true, n, true⟩ 0) w w := ⟨⟨fun _ _ h => .inl h, fun _ _ _ _ h => h⟩, fun _ h => .inl h, fun i hi => by
    have : i ≠ h.length := fun e => hk (e ▸ hi)
    simp [Cx.grow, this, LocLe.refl]⟩
  have g' := g.stepB h.length (.tok ety es n) he (.of_keep (Keep.refl w)) (fun i => Iff.rfl) (fun i hi => by simp [Cx.grow, hi]) (fun h => by simp [Cx.grow] at h) ⟨by simp [Cx.grow], by simp [Cx.grow], fun h => by simp [Cx.grow] at h⟩ (fun b j h => h.elim .inl fun h => by omega) (fun j hx => by have := hx.1; simp [Cx.grow] at this)
  refine ⟨?_, he⟩
  have e := updH_eq h (some (h.length, O.tok ety es n)) (fun k o e => by cases e; exact Nat.le_refl _)
  simp only [updH, Nat.lt_irrefl, if_false, Heap.upd] at e
  rw [e]
  exact g'
theorem gr_of_fullN {x : Cx} {w : World} {k es : Nat} {rows : List (List C)} {u : Value} (hr : ∀ r ∈ rows, r.length = es) (h : CV x w (.full rows) u) : CV (x.grow k ⟨0, 0, true, rows.length, true⟩ 0) w (.gr k es rows) u := by
  simp only [CV] at h ⊢
  obtain ⟨A, e, h⟩ := h
  refine ⟨.inr rfl, by simp [Cx.grow], RdC.mono ⟨fun _ _ h => .inl h, fun _ _ _ _ h => h⟩ _ _ h, hr, by simp [Cx.grow], fun _ => ?_⟩
  simp only [Cx.grow, if_true]
  exact ⟨A, e⟩
theorem Le.tokSlotN {m : Mo} {t : List V} {h : List O} (i : Nat) (ety : TypeId) (es : Nat) (rows : List (List C)) (hi : t[i]? = some (.full rows)) (hr : ∀ r ∈ rows, r.length = es) : Le m ⟨t, h⟩ ⟨t.set i (.gr h.length es rows), h ++ [.tok ety es rows.length]⟩ := fun S0 w0 x a w hm hA => by
  obtain ⟨g', he⟩ := tokVoidN hA.good ety es rows.length
  obtain ⟨u, hu, hc⟩ := hA.tm.get i _ hi
  refine ⟨_, g', ?_, hA.df⟩
  have := (CVs.mono he _ _ hA.tm).set i (gr_of_fullN (k := h.length) (es := es) hr hc)
  have e : a.tmps.toList.set i u = a.tmps.toList := by
    apply List.ext_getElem?
    intro j
    rw [List.getElem?_set]
    split
    · rename_i e
      subst e
      split
      · rw [hu]
      · rename_i hlt
        rw [List.getElem?_eq_none (by omega)]
    · rfl
  rw [e] at this
  exact this
end Go.Proofs.Ytmlabapfjliaeaa
