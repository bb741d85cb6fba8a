/-
  The evaluator's operations are sound.
-/
import Derived.Test.YtnpenchciinmmaaGreatKe
namespace Go.Proofs.YtnpenchciinmmaaGreat
open Go.RowKit
set_option linter.unusedSimpArgs false
set_option linter.unusedVariables false
set_option maxRecDepth 10000

section
variable {S0 : Area} {w0 : Bs} {x : Cx} {w : World} {H : Heap} {a : Act} {o : Oper} {e : Operand → V} {v : V}
theorem opX_ok (g : Good S0 w0 x w H) {h : List EO} {r : XR} (hop : ∀ y ∈ o.op.operands.toList, CV x w (e y) (a.eval y)) (hr : opX Tryz.prog e h o.op = some r) (hH : ∀ k, (r.rk = some k ∨ r.w.map (·.1) = some k) → H k = hgetE h k) : RunOk Tryz.prog o a S0 w0 x w H r.v (wO r.w) := by
  have fresh : r.w.map (·.1) = some h.length → ¬ x.dom h.length := fun hw hd => by
    obtain ⟨ob, hob⟩ := g.dom _ hd
    rw [hH _ (.inr hw)] at hob
    simp [hgetE] at hob
  obtain ⟨op, ho⟩ : ∃ op, o.op = op := ⟨_, rfl⟩
  rw [ho] at hr hop
  unfold opX at hr
  split at hr
  · -- makeMap
    rename_i t rs
    split at hr
    · rename_i hn
      split at hr
      · rename_i ht
        cases hr
        have ht := Nat.eq_of_beq_eq_true ht
        subst ht
        have hrs : rs = none := by cases rs <;> simp_all
        subst hrs
        exact ok_newmap g (R := MgOb true) (fun b => ⟨#[], 0, rfl, fun _ => rfl⟩) ho (run_mkmap_none _ w) _ (fresh rfl)
      · cases hr
    · rename_i kd n hn
      split at hr
      · rename_i et ht
        cases hr
        obtain ⟨kt, hu, _⟩ := tMapS_ok ht
        obtain ⟨y, rfl⟩ : ∃ y, rs = some y := by cases rs <;> simp_all
        simp only [Option.map_some, Option.some.injEq] at hn
        have hy := hop y (by simp [Op.operands])
        rw [hn] at hy
        simp only [CV, RdC] at hy
        exact ok_newmap g (R := MmOb []) (fun b => ⟨#[], 0, rfl, rfl, fun p hp => by cases hp⟩) ho (by rw [Option.map_some, hy.1]; exact run_mkmap_some hu _ _ w) _ (fresh rfl)
      · cases hr
    · cases hr
  · -- lookup
    rename_i t y z ok
    split at hr
    · rename_i k hk
      have hy := hop y (by simp [Op.operands])
      have hz := hop z (by simp [Op.operands])
      rw [hk] at hy
      split at hr
      · rename_i l hl
        split at hr
        · rename_i et s ht hs
          rw [hs] at hz
          split at hr
          · rename_i c hc
            cases hr
            have hHk : H k = some (.mp (MmOb l)) := by rw [hH k (.inl rfl), hgetE, hl]; rfl
            exact ok_mmlook g ho ht hy hz hHk (b := true) (.inl ⟨hc, rfl⟩)
          · rename_i hc
            split at hr
            · rename_i c hz1
              cases hr
              have hHk : H k = some (.mp (MmOb l)) := by rw [hH k (.inl rfl), hgetE, hl]; rfl
              exact ok_mmlook g ho ht hy hz hHk (b := false) (.inr ⟨hc, hz1, rfl⟩)
            · cases hr
        · cases hr
      · rename_i hl
        split at hr
        · rename_i ht
          have ht := Nat.eq_of_beq_eq_true ht
          subst ht
          split at hr
          · rename_i s n zl hs hzl
            cases hr
            rw [hs] at hz
            have hHk : H k = some (.mp (MgOb true)) := by rw [hH k (.inl rfl), hgetE, hl]; rfl
            exact ok_glook g ho hy hz hHk hzl
          · cases hr
        · cases hr
      · cases hr
    · cases hr
  · -- mapUpdate
    rename_i t y z q
    split at hr
    · rename_i k hk
      have hy := hop y (by simp [Op.operands])
      have hz := hop z (by simp [Op.operands])
      have hq := hop q (by simp [Op.operands])
      rw [hk] at hy
      split at hr
      · rename_i l hl
        split at hr
        · rename_i et s c ht hs hc
          rw [hs] at hz
          rw [hc] at hq
          split at hr
          · rename_i hcf
            cases hr
            simp only [Bool.and_eq_true, Option.isNone_iff_eq_none] at hcf
            have hHk : H k = some (.mp (MmOb l)) := by rw [hH k (.inl rfl), hgetE, hl]; rfl
            exact ok_mmset g ho ht hy hz hq hcf.1 hcf.2 hHk
          · cases hr
        · cases hr
      · rename_i hl
        split at hr
        · rename_i ht
          have ht := Nat.eq_of_beq_eq_true ht
          subst ht
          split at hr
          · rename_i s n hs
            cases hr
            rw [hs] at hz
            have hHk : H k = some (.mp (MgOb true)) := by rw [hH k (.inl rfl), hgetE, hl]; rfl
            exact ok_gset g ho hy hz hHk
          · cases hr
        · cases hr
      · cases hr
    · cases hr
  · -- buildSlice
    rename_i t len parts
    split at hr
    · rename_i hlen
      have hlen := Nat.eq_of_beq_eq_true hlen
      subst hlen
      split at hr
      · rename_i q hT hp
        cases hr
        obtain ⟨ety, es, by_⟩ := q
        have hp' : parts = #[] := Array.toList_inj.1 (by simpa using hp)
        subst hp'
        exact ok_build_none g ho hT
      · cases hr
    · split at hr
      · rename_i hlen
        have hlen := Nat.eq_of_beq_eq_true hlen
        subst hlen
        split at hr
        · rename_i y ety by_ hp hT
          split at hr
          · rename_i h1 h2
            cases hr
            have hp' : parts = #[(0, y)] := Array.toList_inj.1 (by simpa using hp)
            subst hp'
            exact ok_build_own g ho hT (hop y (by simp [Op.operands])) h1 _ (fresh rfl)
          · cases hr
        · cases hr
      · cases hr
  · -- slice
    rename_i t y z
    split at hr
    · rename_i k off len es kd n ety es' by_ hy hz hT
      split at hr
      · rename_i hc
        cases hr
        simp only [Bool.and_eq_true, decide_eq_true_eq] at hc
        obtain ⟨⟨h1, h2⟩, h3⟩ := hc
        have h1 := Nat.eq_of_beq_eq_true h1
        subst h1
        have h3 := Nat.le_of_ble_eq_true h3
        have hy' := hop y (by simp [Op.operands])
        have hz' := hop z (by simp [Op.operands])
        rw [hy] at hy'
        rw [hz, show n = ((n.toNat : Nat) : Int) by omega] at hz'
        exact ok_slice_own g ho hT hy' hz' h3
      · cases hr
    · cases hr
  · -- nil
    rename_i t y t'
    split at hr
    · rename_i r0 rs q hv hT
      cases hr
      obtain ⟨ety, es, by_⟩ := q
      have hy := hop y (by simp [Op.operands])
      obtain ⟨b, h1, h2⟩ := ok_nil g ho hT (vRows_ok hv hy) rfl
      cases b with
      | true => exact absurd (h1 rfl) (by simp)
      | false => exact h2
    · cases hr
  · -- pointer, nil
    rename_i t y t'
    split at hr
    · rename_i ht
      have hy := hop y (by simp [Op.operands])
      split at hr
      · rename_i k off hk
        cases hr
        rw [hk] at hy
        simp only [CV] at hy
        exact ok_pnil g ho (b := false) (by simp) ht hy.2.2 rfl
      · rename_i hk
        cases hr
        rw [hk] at hy
        simp only [CV, RdC] at hy
        exact ok_pnil g ho (b := false) (by simp) ht hy rfl
      · cases hr
    · cases hr
  · -- pointer, nil
    rename_i t y t'
    split at hr
    · rename_i ht
      have hy := hop y (by simp [Op.operands])
      split at hr
      · rename_i k off hk
        cases hr
        rw [hk] at hy
        simp only [CV] at hy
        exact ok_pnil g ho (b := true) (by simp) ht hy.2.2 rfl
      · rename_i hk
        cases hr
        rw [hk] at hy
        simp only [CV, RdC] at hy
        exact ok_pnil g ho (b := true) (by simp) ht hy rfl
      · cases hr
    · cases hr
  · -- copy
    rename_i args tys
    split at hr
    · rename_i y z t t' ha ht
      split at hr
      · rename_i htt
        have htt := Nat.eq_of_beq_eq_true htt
        subst htt
        split at hr
        · rename_i q hy hz hT
          cases hr
          obtain ⟨ety, es, by_⟩ := q
          have ha' := toList_two ha
          have ht' := toList_two ht
          subst ha' ht'
          exact ok_copy_none g ho hT (vRows_ok hy (hop y (by simp [Op.operands, Call.operands]))) (vRows_ok hz (hop z (by simp [Op.operands, Call.operands])))
        · cases hr
      · cases hr
    · cases hr
  · cases hr
theorem opE_ok (g : Good S0 w0 x w H) {h : List EO} {r : XR} (hop : ∀ y ∈ o.op.operands.toList, CV x w (e y) (a.eval y)) (hr : opE Tryz.prog e h o.op = some r) (hH : ∀ k, (r.rk = some k ∨ r.w.map (·.1) = some k) → H k = hgetE h k) : RunOk Tryz.prog o a S0 w0 x w H r.v (wO r.w) := by
  have fresh : r.w.map (·.1) = some h.length → ¬ x.dom h.length := fun hw hd => by
    obtain ⟨ob, hob⟩ := g.dom _ hd
    rw [hH _ (.inr hw)] at hob
    simp [hgetE] at hob
  unfold opE at hr
  split at hr
  · rename_i r' hx
    cases hr
    exact opX_ok g hop hx hH
  · simp only at hr
    split at hr
    · rename_i v hap
      cases hr
      have hap' : (aopF Tryz.prog e o.op).ap H h.length = some (v, none) := by rw [← hap]; exact ap_local fun k hk => hH k (.inl hk)
      exact aop_sound g hop (fun ob h => by cases h) hap'
    · rename_i v k ob hap
      cases hr
      have hap' : (aopF Tryz.prog e o.op).ap H h.length = some (v, some (k, ob)) := by rw [← hap]; exact ap_local fun k hk => hH k (.inl hk)
      exact aop_sound g hop (fun ob' h => by cases h; exact fresh rfl) hap'
    · cases hr
end
theorem opX_le {e : Operand → V} {h : List EO} {op : Op} {r : XR} (hr : opX Tryz.prog e h op = some r) : ∀ k ob, r.w = some (k, ob) → k ≤ h.length := by
  intro k ob hw
  have get : ∀ {k : Nat} {q : EO}, h[k]? = some q → k ≤ h.length := fun hk => Nat.le_of_lt (List.getElem?_eq_some_iff.1 hk).1
  unfold opX at hr
  (repeat' split at hr) <;> first
    | (cases hr; done)
    | (cases hr; cases hw; done)
    | (cases hr; cases hw; exact Nat.le_refl _)
    | (cases hr; cases hw; exact get (by assumption))
theorem opE_le {e : Operand → V} {h : List EO} {op : Op} {r : XR} (hr : opE Tryz.prog e h op = some r) : ∀ k ob, r.w = some (k, ob) → k ≤ h.length := by
  intro k ob hw
  unfold opE at hr
  split at hr
  · rename_i r' hx
    cases hr
    exact opX_le hx k ob hw
  · simp only at hr
    split at hr
    · cases hr; cases hw
    · rename_i v k' ob' hap
      cases hr
      cases hw
      have e1 : hgetE h = fun k => (h.map EO.toO)[k]? := funext fun k => (toO_get h k).symm
      have e2 : h.length = (h.map EO.toO).length := by simp
      rw [e1, e2] at hap
      have := ap_le hap k ob' rfl
      simpa using this
    · cases hr
end Go.Proofs.YtnpenchciinmmaaGreat
