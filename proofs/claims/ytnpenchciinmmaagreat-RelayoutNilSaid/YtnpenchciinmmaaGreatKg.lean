/-
  The evaluator is sound.
-/
import Derived.Test.YtnpenchciinmmaaGreatKf
namespace Go.Proofs.YtnpenchciinmmaaGreat
open Go.RowKit
set_option linter.unusedSimpArgs false
set_option linter.unusedVariables false

structure HkOk (P : Program) (K : Hooks) : Prop where
  ac : ∀ f a v, K.ac f a = some v → AC P f a v ∧ callOk P f = true
  ca : ∀ f, K.ca f = true → callOk P f = true ∧ ∀ g caps l, AC P g caps (.agg l) → callOk P g = true → l.length = 11 → l.all V.one = true → AC P f [.fn g caps] (.tup [.agg l, .c (.int .i64 0)])
def Mean (P : Program) : Job → Res → Prop
  | .code n0 c s, r => ∀ K : Exit → St → Prop, K r.e r.s.st → AW ⟨none, n0⟩ P c K s.st
  | .loop n0 c s, r => ∀ K : Exit → St → Prop, K r.e r.s.st → LA ⟨none, n0⟩ P c K s.st
  | .ops all l s, r => r.e = .normal ∧ ∀ K : Exit → St → Prop, K .normal r.s.st → SW P all K l s.st
  | .draw all l acc s, r => r.e = .normal ∧ ∃ es, TrunE P all l s.st es r.s.st ∧ commE all (acc.reverse ++ es.map Eff.ek) = true
  | .call f args h, r => ∃ v, r.s.t = [v] ∧ HC P f args (h.map EO.toO) (.ret v) (r.s.h.map EO.toO)

section
variable {K : Hooks} {rec : Job → Option Res}
theorem callR_ok (hK : HkOk Tryz.prog K) (ih : ∀ j r, rec j = some r → Mean Tryz.prog j r) {f : FuncId} {args : List V} {h : List EO} {r : CR} (hr : callR Tryz.prog K rec f args h = some r) :
    HC Tryz.prog f args (h.map EO.toO) (.ret r.v) (r.h.map EO.toO) ∧ (r.heap = false → r.h = h ∧ ∃ a', V.pubs args = some a' ∧ AC Tryz.prog f a' r.v ∧ callOk Tryz.prog f = true) := by
  have fin : ∀ {a' : List V} {v : V}, V.pubs args = some a' → AC Tryz.prog f a' v → callOk Tryz.prog f = true → some (⟨v, h, false⟩ : CR) = some r → HC Tryz.prog f args (h.map EO.toO) (.ret r.v) (r.h.map EO.toO) ∧ (r.heap = false → r.h = h ∧ ∃ a', V.pubs args = some a' ∧ AC Tryz.prog f a' r.v ∧ callOk Tryz.prog f = true) := by
    intro a' v hp hac hok e
    cases e
    exact ⟨HC.ofAC hac hok hp _, fun _ => ⟨rfl, a', hp, hac, hok⟩⟩
  have finH : ∀ {e : Exit} {v : V} {h' : List EO}, rec (.call f args h) = some ⟨e, ⟨[v], h'⟩⟩ → some (⟨v, h', true⟩ : CR) = some r → HC Tryz.prog f args (h.map EO.toO) (.ret r.v) (r.h.map EO.toO) ∧ (r.heap = false → r.h = h ∧ ∃ a', V.pubs args = some a' ∧ AC Tryz.prog f a' r.v ∧ callOk Tryz.prog f = true) := by
    intro e v h' hc e2
    cases e2
    obtain ⟨v', e3, hc⟩ := ih _ _ hc
    cases e3
    exact ⟨hc, fun h => by cases h⟩
  unfold callR at hr
  split at hr
  · rename_i a' hp
    split at hr
    · rename_i v hv
      obtain ⟨h1, h2⟩ := hK.ac _ _ _ hv
      exact fin hp h1 h2 hr
    · split at hr
      · rename_i hca
        split at hr
        · rename_i gf caps
          split at hr
          · rename_i e v h' hc
            split at hr
            · rename_i l hv
              split at hr
              · rename_i hl
                simp only [Bool.and_eq_true] at hl
                obtain ⟨v', e3, hc⟩ := ih _ _ hc
                cases e3
                obtain ⟨h1, h2⟩ := hK.ca f hca
                exact fin hp (h2 _ _ l (AC.ofHC hc hv) hc.ok (Nat.eq_of_beq_eq_true hl.1) hl.2) h1 hr
              · cases hr
            · cases hr
          · cases hr
        · cases hr
      · split at hr
        · rename_i e v h' hc
          split at hr
          · rename_i v' hv
            obtain ⟨v1, e3, hc⟩ := ih _ _ hc
            cases e3
            exact fin hp (AC.ofHC hc hv) hc.ok hr
          · split at hr
            · rename_i hc; exact finH hc hr
            · cases hr
        · cases hr
  · split at hr
    · rename_i hc; exact finH hc hr
    · cases hr
theorem toArray_self {α : Type} (l : Array α) : l = l.toList.toArray := by simp
theorem stepJ_ok (hK : HkOk Tryz.prog K) (hm : Tryz.prog.follows .mixedOrders = true) (ih : ∀ j r, rec j = some r → Mean Tryz.prog j r) : ∀ {j : Job} {r : Res}, stepJ Tryz.prog K rec j = some r → Mean Tryz.prog j r := by
  intro j r hr
  cases j with
  | code n0 c s =>
    intro KK hKK
    cases c with
    | skip => simp only [stepJ, Option.some.injEq] at hr; subst hr; exact AW.skip hKK
    | region id ops d =>
      simp only [stepJ] at hr
      split at hr
      · rename_i hd
        obtain ⟨h1, es, h2, h3⟩ := ih _ _ hr
        rw [h1] at hKK
        subst hd
        rw [toArray_self ops]
        exact AW.drawE hm rfl h2 (by simpa using h3) hKK
      · rename_i hd
        obtain ⟨h1, h2⟩ := ih _ _ hr
        rw [h1] at hKK
        have hd : d = false := by simpa using hd
        subst hd
        rw [toArray_self ops]
        exact AW.regionS (h2 KK hKK)
    | seq a b =>
      simp only [stepJ] at hr
      refine AW.seq ?_
      split at hr
      · rename_i s' h1
        exact ih _ _ h1 _ (ih _ _ hr KK hKK)
      · rename_i r' hne
        refine ih _ _ hr _ ?_
        obtain ⟨e, s'⟩ := r
        cases e with
        | normal => exact absurd hr (hne s')
        | _ => exact hKK
    | cond c a b =>
      simp only [stepJ] at hr
      split at hr
      · rename_i hv; exact cond_t hv (ih _ _ hr KK hKK)
      · rename_i hv; exact cond_f hv (ih _ _ hr KK hKK)
      · cases hr
    | block id c =>
      simp only [stepJ] at hr
      refine AW.block ?_
      split at hr
      · rename_i i s' h1
        split at hr
        · rename_i hi
          cases hr
          have hi := Nat.eq_of_beq_eq_true hi
          subst hi
          exact ih _ _ h1 _ (aBlk_hit hKK)
        · rename_i hi
          cases hr
          exact ih _ _ h1 _ (aBlk_miss (by simpa using hi) hKK)
      · rename_i r' hne
        refine ih _ _ hr _ ?_
        obtain ⟨e, s'⟩ := r
        cases e with
        | exit i => exact absurd hr (hne i s')
        | _ => exact hKK
    | loop c => exact LA.loop (ih _ _ hr KK hKK)
    | rangeFunc f ps c d => simp [stepJ] at hr
    | exit id => simp only [stepJ, Option.some.injEq] at hr; subst hr; exact AW.exit hKK
    | scope c =>
      simp only [stepJ] at hr
      split at hr
      · cases hr
      · rename_i r' hne
        refine AW.scope (ih _ _ hr _ ?_)
        obtain ⟨e, s'⟩ := r
        cases e with
        | goto l => exact absurd hr (hne l s')
        | _ => exact hKK
    | label l => simp only [stepJ, Option.some.injEq] at hr; subst hr; exact AW.label hKK
    | goto l => simp [stepJ] at hr
    | ret => simp only [stepJ, Option.some.injEq] at hr; subst hr; exact AW.ret hKK
    | refuse w => simp [stepJ] at hr
  | loop n0 c s =>
    intro KK hKK
    simp only [stepJ] at hr
    refine LA.round ?_
    split at hr
    · rename_i s' h1
      exact ih _ _ h1 _ (ih _ _ hr KK hKK)
    · rename_i r' hne
      refine ih _ _ hr _ ?_
      obtain ⟨e, s'⟩ := r
      cases e with
      | normal => exact absurd hr (hne s')
      | _ => exact hKK
  | ops all l s =>
    simp only [stepJ] at hr
    cases l with
    | nil => simp only [Option.some.injEq] at hr; subst hr; exact ⟨rfl, fun KK h => SW.nil h⟩
    | cons o r' =>
      simp only at hr
      split at hr
      · rename_i hg
        obtain ⟨h1, h2⟩ := ih _ _ hr
        refine ⟨h1, fun KK h => SW.skipE hg ?_⟩
        have := h2 KK h
        rw [put_st] at this
        exact this
      · rename_i hg
        split at hr
        · rename_i f args hc
          split at hr
          · rename_i v h' b hcr
            obtain ⟨h1, h2⟩ := ih _ _ hr
            refine ⟨h1, fun KK h => SW.callh (callR_ok hK ih hcr).1 hg hc ?_⟩
            have := h2 KK h
            rw [put_st] at this
            exact this
          · cases hr
        · rename_i hc
          split at hr
          · rename_i v w rk hg' hop
            obtain ⟨h1, h2⟩ := ih _ _ hr
            refine ⟨h1, fun KK h => SW.le (fun m => LeS.frzO K s o.op) (SW.opE v (wO w) (fun k ob hk => ?_) hg' (fun S0 w0 x a w' g ht => ?_) ?_)⟩
            · obtain ⟨p, hp, e⟩ := Option.map_eq_some_iff.1 hk
              obtain ⟨k', eo⟩ := p
              simp only [Prod.mk.injEq] at e
              obtain ⟨rfl, rfl⟩ := e
              have := opE_le hop k' eo hp
              simpa [ES.st] using this
            · exact opE_ok (r := ⟨v, w, rk⟩) g (fun y _ => ev_ok ht y) hop (fun k _ => by show (ES.st _).h[k]? = _; simp only [ES.st]; exact toO_get _ _)
            · have := h2 KK h
              rw [step_st] at this
              exact this
          · cases hr
      · cases hr
  | draw all l acc s =>
    simp only [stepJ] at hr
    cases l with
    | nil =>
      simp only at hr
      split at hr
      · rename_i hc
        cases hr
        exact ⟨rfl, [], ⟨rfl, rfl⟩, by simpa using hc⟩
      · cases hr
    | cons o r' =>
      simp only at hr
      split at hr
      · rename_i hg
        obtain ⟨h1, es, h2, h3⟩ := ih _ _ hr
        refine ⟨h1, .one (.tup []) none none :: es, ⟨_, es, rfl, eok_skipE hg, (fun k ob e => by cases e), ?_⟩, by simpa [Eff.ek] using h3⟩
        rw [put_st] at h2
        exact h2
      · rename_i hg
        split at hr
        · rename_i f args hc
          split at hr
          · rename_i v h' b hcr
            obtain ⟨h1, es, h2, h3⟩ := ih _ _ hr
            obtain ⟨k1, k2⟩ := callR_ok hK ih hcr
            rw [put_st] at h2
            cases b with
            | true => exact ⟨h1, .all v (h'.map EO.toO) :: es, ⟨_, es, rfl, eok_hc hg hc k1, trivial, h2⟩, by simpa [Eff.ek] using h3⟩
            | false =>
              obtain ⟨e1, a', hp, hac, hok⟩ := k2 rfl
              simp only at e1
              subst e1
              exact ⟨h1, .one v none none :: es, ⟨_, es, rfl, eok_ac hg hc hp hac hok, (fun k ob e => by cases e), h2⟩, by simpa [Eff.ek] using h3⟩
          · cases hr
        · rename_i hc
          split at hr
          · rename_i v w rk hop
            obtain ⟨h1, es, h2, h3⟩ := ih _ _ hr
            rw [step_st] at h2
            have hle : ∀ k ob, wO w = some (k, ob) → k ≤ s.st.h.length := by
              intro k ob hk
              obtain ⟨p, hp, e⟩ := Option.map_eq_some_iff.1 hk
              obtain ⟨k', eo⟩ := p
              simp only [Prod.mk.injEq] at e
              obtain ⟨rfl, rfl⟩ := e
              have := opE_le hop k' eo hp
              simpa [ES.st] using this
            have hwm : (wO w).map (·.1) = w.map (·.1) := by cases w <;> rfl
            refine ⟨h1, .one v (wO w) rk :: es, ⟨_, es, rfl, eok_run hg (fun S0 w0 x a w' H g hopv hH => ?_), hle, h2⟩, by simpa [Eff.ek, hwm] using h3⟩
            exact opE_ok (r := ⟨v, w, rk⟩) g hopv hop (fun k hk => by rw [hH k (by rw [hwm]; exact hk)]; simp only [ES.st]; exact toO_get _ _)
          · cases hr
      · cases hr
  | call f args h =>
    simp only [stepJ] at hr
    split at hr
    · rename_i fn hf
      split at hr
      · rename_i c hb
        split at hr
        · rename_i hok
          simp only [Bool.and_eq_true] at hok
          obtain ⟨hok, hle⟩ := hok
          have hle := Nat.le_of_ble_eq_true hle
          split at hr
          · rename_i e s' hc
            have hc := ih _ _ hc
            have body : (e = .normal ∨ e = .ret) → (match aresE Tryz.prog s' fn.results.toList with
              | some vs => match settle h.length (match vs with | [v] => v | vs => .tup vs) s'.h with
                | (v, h') => some (⟨.ret, ⟨[v], h'⟩⟩ : Res)
              | none => none) = some r → Mean Tryz.prog (.call f args h) r := by
              intro he hr
              split at hr
              · rename_i vs hvs
                cases hr
                refine ⟨_, rfl, HC.intro2 hf hb hok hle ?_⟩
                have e1 : (h.map EO.toO).length = h.length := by simp
                rw [e1]
                refine hc _ ⟨he, _, ?_, LeE.settle (Nat.le_refl _) _ _⟩
                unfold aresV
                rw [← aresE_eq, hvs]
                match vs with
                | [v] => rfl
                | [] => rfl
                | _ :: _ :: _ => rfl
              · cases hr
            split at hr
            · exact body (.inl rfl) hr
            · exact body (.inr rfl) hr
            · cases hr
          · cases hr
        · cases hr
      · cases hr
    · cases hr
theorem runJ_ok (hK : HkOk Tryz.prog K) (hm : Tryz.prog.follows .mixedOrders = true) : ∀ (n : Nat) (j : Job) (r : Res), runJ Tryz.prog K n j = some r → Mean Tryz.prog j r
  | 0, j, r, h => by cases h
  | n + 1, j, r, h => stepJ_ok hK hm (runJ_ok hK hm n) h
end
/-- a call that the kernel has run -/
theorem AC.run {K : Hooks} (hK : HkOk Tryz.prog K) (n : Nat) {f : FuncId} {args : List V} {v v' : V} {h : List EO} (hr : runJ Tryz.prog K n (.call f args []) = some ⟨.ret, ⟨[v], h⟩⟩) (hv : V.pub v = some v') : AC Tryz.prog f args v' := by
  obtain ⟨v1, e, hc⟩ := runJ_ok hK mixedP n _ _ hr
  cases e
  exact AC.ofHC hc hv
end Go.Proofs.YtnpenchciinmmaaGreat
